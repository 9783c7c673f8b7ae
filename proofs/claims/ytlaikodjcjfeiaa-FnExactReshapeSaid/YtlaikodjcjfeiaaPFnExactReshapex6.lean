/- The walk of what a law reaches, for the law's row: written by a program of this session; it has no condition of its own. -/
import Derived.Test.YtlaikodjcjfeiaaPFnExactReshapex0
import Derived.Test.YtlaikodjcjfeiaaPFnExactReshapex1
import Derived.Test.YtlaikodjcjfeiaaPFnExactReshapex3
import Derived.Test.YtlaikodjcjfeiaaPFnExactReshapex5
namespace Go.Proofs.Ytlaikodjcjfeiaa.PFnExactReshape
open Go.RowKit Go.Proofs.YtlaikodjcjfeiaaW.PrintWords Go.Proofs.YtlaikodjcjfeiaaW.PrintLast Go.Proofs.YtlaikodjcjfeiaaW.PrintMore
attribute [local go_sem] max2_int min2_int max_two min_two max_three min_three max_four min_four   -- for this text's walks alone
set_option linter.unusedVariables false
set_option linter.unusedSimpArgs false

/-! ### laws_FnExactReshape: function 12 -/
mutual
def laws_FnExactReshape.j0 : Nat → Int → Int → Bool → List Int → List Int → List Int → List Int → List Int → List Int → List Int → List Int → List Int → List Int → List Int → List Int → Option (Bool)
  | 0, _, _, _, _, _, _, _, _, _, _, _, _, _, _, _ => none
  | k + 1, x7, x11, x53, x199000, x199001, x200000, x200001, x222000, x222001, x229000, x229001, x236000, x236001, x244000, x244001 => if x53 = true then (some false) else ((laws_toArray.f k x199000 x199001).bind fun bt245 => ((laws_eqArray.f k x229000 x229001 bt245.1 bt245.2).bind fun t251 => (if t251 = true then ((laws_toArray.f k x200000 x200001).bind fun bt252 => ((laws_eqArray.f k x236000 x236001 bt252.1 bt252.2).bind fun t258 => (if t258 = true then ((laws_markArray.f k x229000 x229001 1).bind fun bt259 => ((laws_markArray.f k x236000 x236001 bt259.1).bind fun bt262 => (if bt262.1 < 0 then (laws_FnExactReshape.j1 k x7 true x199000 x199001 x200000 x200001 x222000 x222001 x244000 x244001) else ((laws_eqArray.f k x244000 x244001 x222000 x222001).bind fun t265 => (if t265 = true then (laws_FnExactReshape.j1 k x7 (x11 != x7) x199000 x199001 x200000 x200001 x222000 x222001 x244000 x244001) else (laws_FnExactReshape.j1 k x7 true x199000 x199001 x200000 x200001 x222000 x222001 x244000 x244001)))))) else (some false)))) else (some false))))
def laws_FnExactReshape.j1 : Nat → Int → Bool → List Int → List Int → List Int → List Int → List Int → List Int → List Int → List Int → Option (Bool)
  | 0, _, _, _, _, _, _, _, _, _, _ => none
  | k + 1, x7, x82, x199000, x199001, x200000, x200001, x222000, x222001, x244000, x244001 => if x82 = true then (some false) else ((laws_markArray.f k x244000 x244001 1).bind fun bt266 => ((laws_heldArray.f k bt266.2.1 bt266.2.2 1).bind fun t269 => (if t269 < 0 then (some false) else (if t269 = bt266.1 then ((laws_toArray.f k x199000 x199001).bind fun bt270 => ((laws_toArray.f k x200000 x200001).bind fun bt276 => ((impl_Reshape.f k bt270.1 bt270.2 bt276.1 bt276.2).bind fun bt282 => ((laws_eqArray.f k bt282.1 bt282.2.1 x222000 x222001).bind fun t290 => (if t290 = true then (laws_FnExactReshape.j2 k bt266.1 (bt282.2.2 != x7) bt266.2.1 bt266.2.2) else (laws_FnExactReshape.j2 k bt266.1 true bt266.2.1 bt266.2.2)))))) else (some false)))))
def laws_FnExactReshape.j2 : Nat → Int → Bool → List Int → List Int → Option (Bool)
  | 0, _, _, _, _ => none
  | k + 1, x13, x110, x244000, x244001 => if x110 = true then (some false) else ((laws_heldArray.f k x244000 x244001 1).bind fun t291 => (if t291 < 0 then (some false) else (if t291 = x13 then (some true) else (some false))))
end
def laws_FnExactReshape.f (k : Nat) (l0_0 : List Int) (l0_1 : List Int) (l1_0 : List Int) (l1_1 : List Int) : Option (Bool) := (laws_szArray.f l0_0 l0_1 1048576).bind fun t200 => (if t200 < 0 then (some true) else ((laws_szArray.f l1_0 l1_1 t200).bind fun t201 => (if t201 < 0 then (some true) else ((laws_toArray.f k l0_0 l0_1).bind fun bt202 => ((laws_toArray.f k l1_0 l1_1).bind fun bt208 => ((spec_Reshape.f k bt202.1 bt202.2 bt208.1 bt208.2).bind fun bt214 => ((laws_toArray.f k l0_0 l0_1).bind fun bt222 => ((laws_toArray.f k l1_0 l1_1).bind fun bt229 => ((impl_Reshape.f k bt222.1 bt222.2 bt229.1 bt229.2).bind fun bt236 => ((laws_eqArray.f k bt236.1 bt236.2.1 bt214.1 bt214.2.1).bind fun t244 => (if t244 = true then (laws_FnExactReshape.j0 k bt214.2.2 bt236.2.2 (bt236.2.2 != bt214.2.2) l0_0 l0_1 l1_0 l1_1 bt214.1 bt214.2.1 bt222.1 bt222.2 bt229.1 bt229.2 bt236.1 bt236.2.1) else (laws_FnExactReshape.j0 k bt214.2.2 bt236.2.2 true l0_0 l0_1 l1_0 l1_1 bt214.1 bt214.2.1 bt222.1 bt222.2 bt229.1 bt229.2 bt236.1 bt236.2.1))))))))))))
theorem laws_FnExactReshape.mono_l : ∀ k, (∀ y0 y1 y2 y3 y4 y5 y6 y7 y8 y9 y10 y11 y12 y13 y14, LeO (laws_FnExactReshape.j0 k y0 y1 y2 y3 y4 y5 y6 y7 y8 y9 y10 y11 y12 y13 y14) (laws_FnExactReshape.j0 (k + 1) y0 y1 y2 y3 y4 y5 y6 y7 y8 y9 y10 y11 y12 y13 y14)) ∧ (∀ y0 y1 y2 y3 y4 y5 y6 y7 y8 y9, LeO (laws_FnExactReshape.j1 k y0 y1 y2 y3 y4 y5 y6 y7 y8 y9) (laws_FnExactReshape.j1 (k + 1) y0 y1 y2 y3 y4 y5 y6 y7 y8 y9)) ∧ (∀ y0 y1 y2 y3, LeO (laws_FnExactReshape.j2 k y0 y1 y2 y3) (laws_FnExactReshape.j2 (k + 1) y0 y1 y2 y3))
  | 0 => ⟨fun _ _ _ _ _ _ _ _ _ _ _ _ _ _ _ r h => by simp [laws_FnExactReshape.j0] at h, fun _ _ _ _ _ _ _ _ _ _ r h => by simp [laws_FnExactReshape.j1] at h, fun _ _ _ _ r h => by simp [laws_FnExactReshape.j2] at h⟩
  | k + 1 => by
    obtain ⟨ih0, ih1, ih2⟩ := laws_FnExactReshape.mono_l k
    refine ⟨?_, ?_, ?_⟩
    · intro y0 y1 y2 y3 y4 y5 y6 y7 y8 y9 y10 y11 y12 y13 y14
      unfold laws_FnExactReshape.j0
      repeat' first
      | (with_reducible exact ih0 _ _ _ _ _ _ _ _ _ _ _ _ _ _ _)
      | (with_reducible exact ih1 _ _ _ _ _ _ _ _ _ _)
      | (with_reducible exact ih2 _ _ _ _)
      | (with_reducible exact impl_Reshape.mono _ _ _ _ _)
      | (with_reducible exact laws_eqArray.mono _ _ _ _ _)
      | (with_reducible exact laws_heldArray.mono _ _ _ _)
      | (with_reducible exact laws_markArray.mono _ _ _ _)
      | (with_reducible exact laws_toArray.mono _ _ _)
      | (with_reducible exact spec_Reshape.mono _ _ _ _ _)
      | (with_reducible exact LeO.refl _)
      | (with_reducible exact LeO.none _)
      | (with_reducible refine LeO.ite ?_ ?_)
      | (with_reducible refine LeO.bind ?_ (fun _ => ?_))
      | exact ih0 _ _ _ _ _ _ _ _ _ _ _ _ _ _ _
      | exact ih1 _ _ _ _ _ _ _ _ _ _
      | exact ih2 _ _ _ _
      | exact impl_Reshape.mono _ _ _ _ _
      | exact laws_eqArray.mono _ _ _ _ _
      | exact laws_heldArray.mono _ _ _ _
      | exact laws_markArray.mono _ _ _ _
      | exact laws_toArray.mono _ _ _
      | exact spec_Reshape.mono _ _ _ _ _
      | exact LeO.none _
      | refine LeO.ite ?_ ?_
      | refine LeO.bind ?_ (fun _ => ?_)
    · intro y0 y1 y2 y3 y4 y5 y6 y7 y8 y9
      unfold laws_FnExactReshape.j1
      repeat' first
      | (with_reducible exact ih0 _ _ _ _ _ _ _ _ _ _ _ _ _ _ _)
      | (with_reducible exact ih1 _ _ _ _ _ _ _ _ _ _)
      | (with_reducible exact ih2 _ _ _ _)
      | (with_reducible exact impl_Reshape.mono _ _ _ _ _)
      | (with_reducible exact laws_eqArray.mono _ _ _ _ _)
      | (with_reducible exact laws_heldArray.mono _ _ _ _)
      | (with_reducible exact laws_markArray.mono _ _ _ _)
      | (with_reducible exact laws_toArray.mono _ _ _)
      | (with_reducible exact spec_Reshape.mono _ _ _ _ _)
      | (with_reducible exact LeO.refl _)
      | (with_reducible exact LeO.none _)
      | (with_reducible refine LeO.ite ?_ ?_)
      | (with_reducible refine LeO.bind ?_ (fun _ => ?_))
      | exact ih0 _ _ _ _ _ _ _ _ _ _ _ _ _ _ _
      | exact ih1 _ _ _ _ _ _ _ _ _ _
      | exact ih2 _ _ _ _
      | exact impl_Reshape.mono _ _ _ _ _
      | exact laws_eqArray.mono _ _ _ _ _
      | exact laws_heldArray.mono _ _ _ _
      | exact laws_markArray.mono _ _ _ _
      | exact laws_toArray.mono _ _ _
      | exact spec_Reshape.mono _ _ _ _ _
      | exact LeO.none _
      | refine LeO.ite ?_ ?_
      | refine LeO.bind ?_ (fun _ => ?_)
    · intro y0 y1 y2 y3
      unfold laws_FnExactReshape.j2
      repeat' first
      | (with_reducible exact ih0 _ _ _ _ _ _ _ _ _ _ _ _ _ _ _)
      | (with_reducible exact ih1 _ _ _ _ _ _ _ _ _ _)
      | (with_reducible exact ih2 _ _ _ _)
      | (with_reducible exact impl_Reshape.mono _ _ _ _ _)
      | (with_reducible exact laws_eqArray.mono _ _ _ _ _)
      | (with_reducible exact laws_heldArray.mono _ _ _ _)
      | (with_reducible exact laws_markArray.mono _ _ _ _)
      | (with_reducible exact laws_toArray.mono _ _ _)
      | (with_reducible exact spec_Reshape.mono _ _ _ _ _)
      | (with_reducible exact LeO.refl _)
      | (with_reducible exact LeO.none _)
      | (with_reducible refine LeO.ite ?_ ?_)
      | (with_reducible refine LeO.bind ?_ (fun _ => ?_))
      | exact ih0 _ _ _ _ _ _ _ _ _ _ _ _ _ _ _
      | exact ih1 _ _ _ _ _ _ _ _ _ _
      | exact ih2 _ _ _ _
      | exact impl_Reshape.mono _ _ _ _ _
      | exact laws_eqArray.mono _ _ _ _ _
      | exact laws_heldArray.mono _ _ _ _
      | exact laws_markArray.mono _ _ _ _
      | exact laws_toArray.mono _ _ _
      | exact spec_Reshape.mono _ _ _ _ _
      | exact LeO.none _
      | refine LeO.ite ?_ ?_
      | refine LeO.bind ?_ (fun _ => ?_)
theorem laws_FnExactReshape.mono : ∀ a0 a1 a2 a3 k, LeO (laws_FnExactReshape.f k a0 a1 a2 a3) (laws_FnExactReshape.f (k + 1) a0 a1 a2 a3) := by
  intro a0 a1 a2 a3 k
  obtain ⟨ih0, ih1, ih2⟩ := laws_FnExactReshape.mono_l k
  unfold laws_FnExactReshape.f
  repeat' first
      | (with_reducible exact ih0 _ _ _ _ _ _ _ _ _ _ _ _ _ _ _)
      | (with_reducible exact ih1 _ _ _ _ _ _ _ _ _ _)
      | (with_reducible exact ih2 _ _ _ _)
      | (with_reducible exact impl_Reshape.mono _ _ _ _ _)
      | (with_reducible exact laws_eqArray.mono _ _ _ _ _)
      | (with_reducible exact laws_heldArray.mono _ _ _ _)
      | (with_reducible exact laws_markArray.mono _ _ _ _)
      | (with_reducible exact laws_toArray.mono _ _ _)
      | (with_reducible exact spec_Reshape.mono _ _ _ _ _)
      | (with_reducible exact LeO.refl _)
      | (with_reducible exact LeO.none _)
      | (with_reducible refine LeO.ite ?_ ?_)
      | (with_reducible refine LeO.bind ?_ (fun _ => ?_))
      | exact ih0 _ _ _ _ _ _ _ _ _ _ _ _ _ _ _
      | exact ih1 _ _ _ _ _ _ _ _ _ _
      | exact ih2 _ _ _ _
      | exact impl_Reshape.mono _ _ _ _ _
      | exact laws_eqArray.mono _ _ _ _ _
      | exact laws_heldArray.mono _ _ _ _
      | exact laws_markArray.mono _ _ _ _
      | exact laws_toArray.mono _ _ _
      | exact spec_Reshape.mono _ _ _ _ _
      | exact LeO.none _
      | refine LeO.ite ?_ ?_
      | refine LeO.bind ?_ (fun _ => ?_)
def laws_FnExactReshape.T8 : Bool × List (List Nat × List Nat) := (true, [([], []), ([0], [0]), ([], []), ([2, 1], [2]), ([1, 3, 3], [1, 3]), ([4], [4]), ([5], [5]), ([5], [5]), ([], []), ([8, 6, 4, 0, 1, 2, 3, 4, 5, 6, 8], [6, 8]), ([7, 9, 0, 1, 2, 3, 4, 5, 6, 7, 8, 9], [7])])
def laws_FnExactReshape.B8 : List Nat := [0, 1, 0, 7, 15, 31, 63, 63, 0, 383, 1023]
theorem laws_FnExactReshape.tab8 : rtab .any (opsOf Try.f12 8) = laws_FnExactReshape.T8 := by kernel_rfl
theorem laws_FnExactReshape.bits8 : waitsOk laws_FnExactReshape.T8.2 laws_FnExactReshape.B8 = true := by kernel_rfl
def laws_FnExactReshape.T31 : Bool × List (List Nat × List Nat) := (true, [([], []), ([0], [0]), ([], []), ([2, 1], [2]), ([1, 3, 3], [1, 3]), ([4], [4]), ([5], [5]), ([5], [5]), ([], []), ([8, 6, 4, 0, 1, 2, 3, 4, 5, 6, 8], [6, 8]), ([7, 9, 0, 1, 2, 3, 4, 5, 6, 7, 8, 9], [7])])
def laws_FnExactReshape.B31 : List Nat := [0, 1, 0, 7, 15, 31, 63, 63, 0, 383, 1023]
theorem laws_FnExactReshape.tab31 : rtab .any (opsOf Try.f12 31) = laws_FnExactReshape.T31 := by kernel_rfl
theorem laws_FnExactReshape.bits31 : waitsOk laws_FnExactReshape.T31.2 laws_FnExactReshape.B31 = true := by kernel_rfl
set_option maxHeartbeats 8000000 in
set_option maxRecDepth 100000 in
def laws_FnExactReshape.part1 : {P : Prop // (True → P) → ∀ (k : Nat) (A0_0 : Option Addr) (c0_0 : Nat) (l0_0 : List Int) (A0_1 : Option Addr) (c0_1 : Nat) (l0_1 : List Int) (A1_0 : Option Addr) (c1_0 : Nat) (l1_0 : List Int) (A1_1 : Option Addr) (c1_1 : Nat) (l1_1 : List Int) (r : Bool) (w : World) (hr0_0 : Kd.C (Kd.int .i64) w A0_0 l0_0.length l0_0) (hc0_0 : l0_0.length ≤ c0_0) (hr0_1 : Kd.C (Kd.int .i64) w A0_1 l0_1.length l0_1) (hc0_1 : l0_1.length ≤ c0_1) (hr1_0 : Kd.C (Kd.int .i64) w A1_0 l1_0.length l1_0) (hc1_0 : l1_0.length ≤ c1_0) (hr1_1 : Kd.C (Kd.int .i64) w A1_1 l1_1.length l1_1) (hc1_1 : l1_1.length ≤ c1_1) (h : laws_FnExactReshape.f k l0_0 l0_1 l1_0 l1_1 = some r) (hT : r = true), Calls Try.prog 12 #[.agg #[.slice A0_0 l0_0.length c0_0, .slice A0_1 l0_1.length c0_1], .agg #[.slice A1_0 l1_0.length c1_0, .slice A1_1 l1_1.length c1_1]] w fun e w' => e = .returned (.bool r) ∧ Below w.heap.size w w'} := ⟨_, fun hRest_ => by
  intro k A0_0 c0_0 l0_0 A0_1 c0_1 l0_1 A1_0 c1_0 l1_0 A1_1 c1_1 l1_1 r w hr0_0 hc0_0 hr0_1 hc0_1 hr1_0 hc1_0 hr1_1 hc1_1 h hT
  have HT := Aside0.mk hT
  clear hT
  have hu37 := Try.underlying37
  have hu26 := Try.underlying26
  have HR0_0 := Aside0.mk hr0_0
  have HC0_0 := Aside0.mk hc0_0
  clear hr0_0 hc0_0
  have HR0_1 := Aside0.mk hr0_1
  have HC0_1 := Aside0.mk hc0_1
  clear hr0_1 hc0_1
  have HR1_0 := Aside0.mk hr1_0
  have HC1_0 := Aside0.mk hc1_0
  clear hr1_0 hc1_0
  have HR1_1 := Aside0.mk hr1_1
  have HC1_1 := Aside0.mk hc1_1
  clear hr1_1 hc1_1
  have HB := Aside0.mk (Below.refl w.heap.size w)
  have H : ((laws_szArray.f l0_0 l0_1 1048576).bind fun t200 => (if t200 < 0 then (some true) else ((laws_szArray.f l1_0 l1_1 t200).bind fun t201 => (if t201 < 0 then (some true) else ((laws_toArray.f k l0_0 l0_1).bind fun bt202 => ((laws_toArray.f k l1_0 l1_1).bind fun bt208 => ((spec_Reshape.f k bt202.1 bt202.2 bt208.1 bt208.2).bind fun bt214 => ((laws_toArray.f k l0_0 l0_1).bind fun bt222 => ((laws_toArray.f k l1_0 l1_1).bind fun bt229 => ((impl_Reshape.f k bt222.1 bt222.2 bt229.1 bt229.2).bind fun bt236 => ((laws_eqArray.f k bt236.1 bt236.2.1 bt214.1 bt214.2.1).bind fun t244 => (if t244 = true then (laws_FnExactReshape.j0 k bt214.2.2 bt236.2.2 (bt236.2.2 != bt214.2.2) l0_0 l0_1 l1_0 l1_1 bt214.1 bt214.2.1 bt222.1 bt222.2 bt229.1 bt229.2 bt236.1 bt236.2.1) else (laws_FnExactReshape.j0 k bt214.2.2 bt236.2.2 true l0_0 l0_1 l1_0 l1_1 bt214.1 bt214.2.1 bt222.1 bt222.2 bt229.1 bt229.2 bt236.1 bt236.2.1))))))))))))) = some r := h
  clear h
  replace H := Option.bind_eq_some_iff.mp H
  obtain ⟨t200, A30, H⟩ := H
  replace H : (if t200 < 0 then (some true) else ((laws_szArray.f l1_0 l1_1 t200).bind fun t201 => (if t201 < 0 then (some true) else ((laws_toArray.f k l0_0 l0_1).bind fun bt202 => ((laws_toArray.f k l1_0 l1_1).bind fun bt208 => ((spec_Reshape.f k bt202.1 bt202.2 bt208.1 bt208.2).bind fun bt214 => ((laws_toArray.f k l0_0 l0_1).bind fun bt222 => ((laws_toArray.f k l1_0 l1_1).bind fun bt229 => ((impl_Reshape.f k bt222.1 bt222.2 bt229.1 bt229.2).bind fun bt236 => ((laws_eqArray.f k bt236.1 bt236.2.1 bt214.1 bt214.2.1).bind fun t244 => (if t244 = true then (laws_FnExactReshape.j0 k bt214.2.2 bt236.2.2 (bt236.2.2 != bt214.2.2) l0_0 l0_1 l1_0 l1_1 bt214.1 bt214.2.1 bt222.1 bt222.2 bt229.1 bt229.2 bt236.1 bt236.2.1) else (laws_FnExactReshape.j0 k bt214.2.2 bt236.2.2 true l0_0 l0_1 l1_0 l1_1 bt214.1 bt214.2.1 bt222.1 bt222.2 bt229.1 bt229.2 bt236.1 bt236.2.1)))))))))))) = some r := H
  have A3 := Aside0.mk A30
  clear A30
  by_cases c4 : t200 < 0
  · rw [if_pos c4] at H
    have c4b0 : decide (t200 < 0) = true := decide_eq_true c4
    clear c4
    obtain rfl := Option.some.inj H
    go_enter Try.func12, Try.ntmps12
    go_wp2_with (first | ((with_reducible refine gate_dst (N := 2) rfl ?_); refine box_event ?hg (N := 2) ?hd (cs := #[.slice A0_0 l0_0.length c0_0, .slice A0_1 l0_1.length c0_1]) (t := 37) ?hr ?_; (case hd => rfl); (case hg => rfl); (case hr => first | (go_simp; done) | (go_simp; rfl)); intro gb198 hg w5 hbox hb; have n0_ := Aside0.mk (below_step (by repeat (first | (with_reducible first | exact HB.out | apply below_alloc | apply pw_below_drewN | apply below_drew1) | exact HB.out)) hb); have n1_ := Aside0.mk (hbox); have n2_ := Aside0.mk ((by rw [hg]; exact (below_size (by repeat (first | (with_reducible first | exact HB.out | apply below_alloc | apply pw_below_drewN | apply below_drew1) | exact HB.out))) : w.heap.size ≤ gb198)); have n3_ := Aside0.mk ((by rw [hg]; exact (below_size (by repeat (first | (with_reducible first | exact HB.out | apply below_alloc | apply pw_below_drewN | apply below_drew1) | exact HB.out))) : w.heap.size ≤ gb198)); clear HB; have HB := n0_; have BK198 := n1_; have GW198 := n2_; have GE198 := n3_; clear n0_ n1_ n2_ n3_; clear hb hbox hg) | ((with_reducible refine gate_dst (N := 3) rfl ?_); refine box_event ?hg (N := 3) ?hd (cs := #[.slice A1_0 l1_0.length c1_0, .slice A1_1 l1_1.length c1_1]) (t := 37) ?hr ?_; (case hd => rfl); (case hg => rfl); (case hr => first | (go_simp; done) | (go_simp; rfl)); intro gb199 hg w6 hbox hb; have n0_ := Aside0.mk (blk_below (g := gb198) (o := .cells #[.slice A0_0 l0_0.length c0_0, .slice A0_1 l0_1.length c0_1] 37 (0, 0)) (by (with_reducible repeat (first | refine blk_drewN ?_ _ | refine blk_drew ?_ | refine blk_alloc ?_ _)); exact BK198.out) hb); have n1_ := Aside0.mk (below_step (by repeat (first | (with_reducible first | exact HB.out | apply below_alloc | apply pw_below_drewN | apply below_drew1 | refine below_set ?_ GE198.out) | exact HB.out)) hb); have n2_ := Aside0.mk (hbox); have n3_ := Aside0.mk ((by rw [hg]; exact (below_size (by repeat (first | (with_reducible first | exact HB.out | apply below_alloc | apply pw_below_drewN | apply below_drew1 | refine below_set ?_ GE198.out) | exact HB.out))) : w.heap.size ≤ gb199)); have n4_ := Aside0.mk ((by rw [hg]; exact (below_size (by repeat (first | (with_reducible first | exact HB.out | apply below_alloc | apply pw_below_drewN | apply below_drew1 | refine below_set ?_ GE198.out) | exact HB.out))) : w.heap.size ≤ gb199)); have n5_ := Aside0.mk ((by rw [hg]; exact Nat.ne_of_lt (blk_lt (g := gb198) (o := .cells #[.slice A0_0 l0_0.length c0_0, .slice A0_1 l0_1.length c0_1] 37 (0, 0)) (by (with_reducible repeat (first | refine blk_drewN ?_ _ | refine blk_drew ?_ | refine blk_alloc ?_ _)); exact BK198.out)) : gb198 ≠ gb199)); have n6_ := Aside0.mk ((by rw [hg]; exact Nat.ne_of_gt (blk_lt (g := gb198) (o := .cells #[.slice A0_0 l0_0.length c0_0, .slice A0_1 l0_1.length c0_1] 37 (0, 0)) (by (with_reducible repeat (first | refine blk_drewN ?_ _ | refine blk_drew ?_ | refine blk_alloc ?_ _)); exact BK198.out)) : gb199 ≠ gb198)); clear BK198; clear HB; have BK198 := n0_; have HB := n1_; have BK199 := n2_; have GW199 := n3_; have GE199 := n4_; have NB198_199 := n5_; have NB199_198 := n6_; clear n0_ n1_ n2_ n3_ n4_ n5_ n6_; clear hb hbox hg; have hnb7 := NB198_199.out; have hnc7 := NB199_198.out; have hcz8_0 : w6.cell? ⟨gb198, 0, none⟩ = some (.slice A0_0 l0_0.length c0_0) := (blk_cell BK198.out 0).trans rfl; have hcz8_1 : w6.cell? ⟨gb198, 1, none⟩ = some (.slice A0_1 l0_1.length c0_1) := (blk_cell BK198.out 1).trans rfl; have hfz8_0 := blk_frozen BK198.out 0; have hfz8_1 := blk_frozen BK198.out 1) | ((with_reducible refine gate_callee (f := 23) rfl ?_); refine goesL_ (some 19) rfl rfl Try.func23 (by kernel_rfl) rfl #[.agg #[.slice A0_0 l0_0.length c0_0, .slice A0_1 l0_1.length c0_1], .int .i64 1048576] rfl (by (try simp only [List.map_toArray, List.map_cons, List.map_nil]); first | done | rfl | (simp only [List.length_drop, List.length_take]; rfl)) ?_; (with_reducible refine (laws_szArray.calls _ _ l0_0 _ _ l0_1 1048576 t200 _ ?side1 ?side2 ?side3 ?side4 A3.out).mono ?_); (case side1 => repeat (first | exact (Kd.C_below HR0_0.out HB.out) | (with_reducible refine Kd.C_alloc ?_ _) | (with_reducible refine Kd.C_drewN ?_ _) | (with_reducible refine Kd.C_drew ?_))); (case side2 => exact HC0_0.out); (case side3 => repeat (first | exact (Kd.C_below HR0_1.out HB.out) | (with_reducible refine Kd.C_alloc ?_ _) | (with_reducible refine Kd.C_drewN ?_ _) | (with_reducible refine Kd.C_drew ?_))); (case side4 => exact HC0_1.out); rintro e w9 ⟨rfl, hb⟩; refine ⟨_, rfl, ?_⟩; have n0_ := Aside0.mk (blk_below (g := gb198) (o := .cells #[.slice A0_0 l0_0.length c0_0, .slice A0_1 l0_1.length c0_1] 37 (0, 0)) (by (with_reducible repeat (first | refine blk_drewN ?_ _ | refine blk_drew ?_ | refine blk_alloc ?_ _)); exact BK198.out) hb); have n1_ := Aside0.mk (blk_below (g := gb199) (o := .cells #[.slice A1_0 l1_0.length c1_0, .slice A1_1 l1_1.length c1_1] 37 (0, 0)) (by (with_reducible repeat (first | refine blk_drewN ?_ _ | refine blk_drew ?_ | refine blk_alloc ?_ _)); exact BK199.out) hb); have n2_ := Aside0.mk (below_step (by repeat (first | (with_reducible first | exact HB.out | apply below_alloc | apply pw_below_drewN | apply below_drew1 | refine below_set ?_ GE198.out | refine below_set ?_ GE199.out) | exact HB.out)) hb); clear BK198; clear BK199; clear HB; have BK198 := n0_; have BK199 := n1_; have HB := n2_; clear n0_ n1_ n2_; (try clear hb); (try clear hb2); (try clear hk); (try clear hi)))
    go_ret
    exact ⟨by first | rfl | (simp [errW_none, errW_some] <;> rfl) | (simp [*, errW_none, errW_some] <;> rfl), by repeat (first | (with_reducible first | exact HB.out | apply below_alloc | apply pw_below_drewN | apply below_drew1 | refine below_set ?_ GE198.out | refine below_set ?_ GE199.out) | exact HB.out)⟩
  · rw [if_neg c4] at H
    have c4b0 : decide (t200 < 0) = false := decide_eq_false c4
    clear c4
    replace H := Option.bind_eq_some_iff.mp H
    obtain ⟨t201, A100, H⟩ := H
    replace H : (if t201 < 0 then (some true) else ((laws_toArray.f k l0_0 l0_1).bind fun bt202 => ((laws_toArray.f k l1_0 l1_1).bind fun bt208 => ((spec_Reshape.f k bt202.1 bt202.2 bt208.1 bt208.2).bind fun bt214 => ((laws_toArray.f k l0_0 l0_1).bind fun bt222 => ((laws_toArray.f k l1_0 l1_1).bind fun bt229 => ((impl_Reshape.f k bt222.1 bt222.2 bt229.1 bt229.2).bind fun bt236 => ((laws_eqArray.f k bt236.1 bt236.2.1 bt214.1 bt214.2.1).bind fun t244 => (if t244 = true then (laws_FnExactReshape.j0 k bt214.2.2 bt236.2.2 (bt236.2.2 != bt214.2.2) l0_0 l0_1 l1_0 l1_1 bt214.1 bt214.2.1 bt222.1 bt222.2 bt229.1 bt229.2 bt236.1 bt236.2.1) else (laws_FnExactReshape.j0 k bt214.2.2 bt236.2.2 true l0_0 l0_1 l1_0 l1_1 bt214.1 bt214.2.1 bt222.1 bt222.2 bt229.1 bt229.2 bt236.1 bt236.2.1)))))))))) = some r := H
    have A10 := Aside0.mk A100
    clear A100
    by_cases c11 : t201 < 0
    · rw [if_pos c11] at H
      have c11b0 : decide (t201 < 0) = true := decide_eq_true c11
      clear c11
      obtain rfl := Option.some.inj H
      go_enter Try.func12, Try.ntmps12
      go_wp2_with (first | ((with_reducible refine gate_dst (N := 2) rfl ?_); refine box_event ?hg (N := 2) ?hd (cs := #[.slice A0_0 l0_0.length c0_0, .slice A0_1 l0_1.length c0_1]) (t := 37) ?hr ?_; (case hd => rfl); (case hg => rfl); (case hr => first | (go_simp; done) | (go_simp; rfl)); intro gb198 hg w12 hbox hb; have n0_ := Aside0.mk (below_step (by repeat (first | (with_reducible first | exact HB.out | apply below_alloc | apply pw_below_drewN | apply below_drew1) | exact HB.out)) hb); have n1_ := Aside0.mk (hbox); have n2_ := Aside0.mk ((by rw [hg]; exact (below_size (by repeat (first | (with_reducible first | exact HB.out | apply below_alloc | apply pw_below_drewN | apply below_drew1) | exact HB.out))) : w.heap.size ≤ gb198)); have n3_ := Aside0.mk ((by rw [hg]; exact (below_size (by repeat (first | (with_reducible first | exact HB.out | apply below_alloc | apply pw_below_drewN | apply below_drew1) | exact HB.out))) : w.heap.size ≤ gb198)); clear HB; have HB := n0_; have BK198 := n1_; have GW198 := n2_; have GE198 := n3_; clear n0_ n1_ n2_ n3_; clear hb hbox hg) | ((with_reducible refine gate_dst (N := 3) rfl ?_); refine box_event ?hg (N := 3) ?hd (cs := #[.slice A1_0 l1_0.length c1_0, .slice A1_1 l1_1.length c1_1]) (t := 37) ?hr ?_; (case hd => rfl); (case hg => rfl); (case hr => first | (go_simp; done) | (go_simp; rfl)); intro gb199 hg w13 hbox hb; have n0_ := Aside0.mk (blk_below (g := gb198) (o := .cells #[.slice A0_0 l0_0.length c0_0, .slice A0_1 l0_1.length c0_1] 37 (0, 0)) (by (with_reducible repeat (first | refine blk_drewN ?_ _ | refine blk_drew ?_ | refine blk_alloc ?_ _)); exact BK198.out) hb); have n1_ := Aside0.mk (below_step (by repeat (first | (with_reducible first | exact HB.out | apply below_alloc | apply pw_below_drewN | apply below_drew1 | refine below_set ?_ GE198.out) | exact HB.out)) hb); have n2_ := Aside0.mk (hbox); have n3_ := Aside0.mk ((by rw [hg]; exact (below_size (by repeat (first | (with_reducible first | exact HB.out | apply below_alloc | apply pw_below_drewN | apply below_drew1 | refine below_set ?_ GE198.out) | exact HB.out))) : w.heap.size ≤ gb199)); have n4_ := Aside0.mk ((by rw [hg]; exact (below_size (by repeat (first | (with_reducible first | exact HB.out | apply below_alloc | apply pw_below_drewN | apply below_drew1 | refine below_set ?_ GE198.out) | exact HB.out))) : w.heap.size ≤ gb199)); have n5_ := Aside0.mk ((by rw [hg]; exact Nat.ne_of_lt (blk_lt (g := gb198) (o := .cells #[.slice A0_0 l0_0.length c0_0, .slice A0_1 l0_1.length c0_1] 37 (0, 0)) (by (with_reducible repeat (first | refine blk_drewN ?_ _ | refine blk_drew ?_ | refine blk_alloc ?_ _)); exact BK198.out)) : gb198 ≠ gb199)); have n6_ := Aside0.mk ((by rw [hg]; exact Nat.ne_of_gt (blk_lt (g := gb198) (o := .cells #[.slice A0_0 l0_0.length c0_0, .slice A0_1 l0_1.length c0_1] 37 (0, 0)) (by (with_reducible repeat (first | refine blk_drewN ?_ _ | refine blk_drew ?_ | refine blk_alloc ?_ _)); exact BK198.out)) : gb199 ≠ gb198)); clear BK198; clear HB; have BK198 := n0_; have HB := n1_; have BK199 := n2_; have GW199 := n3_; have GE199 := n4_; have NB198_199 := n5_; have NB199_198 := n6_; clear n0_ n1_ n2_ n3_ n4_ n5_ n6_; clear hb hbox hg; have hnb14 := NB198_199.out; have hnc14 := NB199_198.out; have hcz15_0 : w13.cell? ⟨gb198, 0, none⟩ = some (.slice A0_0 l0_0.length c0_0) := (blk_cell BK198.out 0).trans rfl; have hcz15_1 : w13.cell? ⟨gb198, 1, none⟩ = some (.slice A0_1 l0_1.length c0_1) := (blk_cell BK198.out 1).trans rfl; have hfz15_0 := blk_frozen BK198.out 0; have hfz15_1 := blk_frozen BK198.out 1) | ((with_reducible refine gate_callee (f := 23) rfl ?_); refine goesL_ (some 19) rfl rfl Try.func23 (by kernel_rfl) rfl #[.agg #[.slice A0_0 l0_0.length c0_0, .slice A0_1 l0_1.length c0_1], .int .i64 1048576] rfl (by (try simp only [List.map_toArray, List.map_cons, List.map_nil]); first | done | rfl | (simp only [List.length_drop, List.length_take]; rfl)) ?_; (with_reducible refine (laws_szArray.calls _ _ l0_0 _ _ l0_1 1048576 t200 _ ?side1 ?side2 ?side3 ?side4 A3.out).mono ?_); (case side1 => repeat (first | exact (Kd.C_below HR0_0.out HB.out) | (with_reducible refine Kd.C_alloc ?_ _) | (with_reducible refine Kd.C_drewN ?_ _) | (with_reducible refine Kd.C_drew ?_))); (case side2 => exact HC0_0.out); (case side3 => repeat (first | exact (Kd.C_below HR0_1.out HB.out) | (with_reducible refine Kd.C_alloc ?_ _) | (with_reducible refine Kd.C_drewN ?_ _) | (with_reducible refine Kd.C_drew ?_))); (case side4 => exact HC0_1.out); rintro e w16 ⟨rfl, hb⟩; refine ⟨_, rfl, ?_⟩; have n0_ := Aside0.mk (blk_below (g := gb198) (o := .cells #[.slice A0_0 l0_0.length c0_0, .slice A0_1 l0_1.length c0_1] 37 (0, 0)) (by (with_reducible repeat (first | refine blk_drewN ?_ _ | refine blk_drew ?_ | refine blk_alloc ?_ _)); exact BK198.out) hb); have n1_ := Aside0.mk (blk_below (g := gb199) (o := .cells #[.slice A1_0 l1_0.length c1_0, .slice A1_1 l1_1.length c1_1] 37 (0, 0)) (by (with_reducible repeat (first | refine blk_drewN ?_ _ | refine blk_drew ?_ | refine blk_alloc ?_ _)); exact BK199.out) hb); have n2_ := Aside0.mk (below_step (by repeat (first | (with_reducible first | exact HB.out | apply below_alloc | apply pw_below_drewN | apply below_drew1 | refine below_set ?_ GE198.out | refine below_set ?_ GE199.out) | exact HB.out)) hb); clear BK198; clear BK199; clear HB; have BK198 := n0_; have BK199 := n1_; have HB := n2_; clear n0_ n1_ n2_; (try clear hb); (try clear hb2); (try clear hk); (try clear hi); have hcz17_0 : w16.cell? ⟨gb199, 0, none⟩ = some (.slice A1_0 l1_0.length c1_0) := (blk_cell BK199.out 0).trans rfl; have hcz17_1 : w16.cell? ⟨gb199, 1, none⟩ = some (.slice A1_1 l1_1.length c1_1) := (blk_cell BK199.out 1).trans rfl; have hfz17_0 := blk_frozen BK199.out 0; have hfz17_1 := blk_frozen BK199.out 1) | ((with_reducible refine gate_callee (f := 23) rfl ?_); refine goesL_ (some 24) rfl rfl Try.func23 (by kernel_rfl) rfl #[.agg #[.slice A1_0 l1_0.length c1_0, .slice A1_1 l1_1.length c1_1], .int .i64 t200] rfl (by (try simp only [List.map_toArray, List.map_cons, List.map_nil]); first | done | rfl | (simp only [List.length_drop, List.length_take]; rfl)) ?_; (with_reducible refine (laws_szArray.calls _ _ l1_0 _ _ l1_1 t200 t201 _ ?side1 ?side2 ?side3 ?side4 A10.out).mono ?_); (case side1 => repeat (first | exact (Kd.C_below HR1_0.out HB.out) | (with_reducible refine Kd.C_alloc ?_ _) | (with_reducible refine Kd.C_drewN ?_ _) | (with_reducible refine Kd.C_drew ?_))); (case side2 => exact HC1_0.out); (case side3 => repeat (first | exact (Kd.C_below HR1_1.out HB.out) | (with_reducible refine Kd.C_alloc ?_ _) | (with_reducible refine Kd.C_drewN ?_ _) | (with_reducible refine Kd.C_drew ?_))); (case side4 => exact HC1_1.out); rintro e w18 ⟨rfl, hb⟩; refine ⟨_, rfl, ?_⟩; have n0_ := Aside0.mk (blk_below (g := gb198) (o := .cells #[.slice A0_0 l0_0.length c0_0, .slice A0_1 l0_1.length c0_1] 37 (0, 0)) (by (with_reducible repeat (first | refine blk_drewN ?_ _ | refine blk_drew ?_ | refine blk_alloc ?_ _)); exact BK198.out) hb); have n1_ := Aside0.mk (blk_below (g := gb199) (o := .cells #[.slice A1_0 l1_0.length c1_0, .slice A1_1 l1_1.length c1_1] 37 (0, 0)) (by (with_reducible repeat (first | refine blk_drewN ?_ _ | refine blk_drew ?_ | refine blk_alloc ?_ _)); exact BK199.out) hb); have n2_ := Aside0.mk (below_step (by repeat (first | (with_reducible first | exact HB.out | apply below_alloc | apply pw_below_drewN | apply below_drew1 | refine below_set ?_ GE198.out | refine below_set ?_ GE199.out) | exact HB.out)) hb); clear BK198; clear BK199; clear HB; have BK198 := n0_; have BK199 := n1_; have HB := n2_; clear n0_ n1_ n2_; (try clear hb); (try clear hb2); (try clear hk); (try clear hi)))
      go_ret
      exact ⟨by first | rfl | (simp [errW_none, errW_some] <;> rfl) | (simp [*, errW_none, errW_some] <;> rfl), by repeat (first | (with_reducible first | exact HB.out | apply below_alloc | apply pw_below_drewN | apply below_drew1 | refine below_set ?_ GE198.out | refine below_set ?_ GE199.out) | exact HB.out)⟩
    · rw [if_neg c11] at H
      have c11b0 : decide (t201 < 0) = false := decide_eq_false c11
      clear c11
      replace H := Option.bind_eq_some_iff.mp H
      obtain ⟨⟨t202, t205⟩, A190, H⟩ := H
      replace H : ((laws_toArray.f k l1_0 l1_1).bind fun bt208 => ((spec_Reshape.f k t202 t205 bt208.1 bt208.2).bind fun bt214 => ((laws_toArray.f k l0_0 l0_1).bind fun bt222 => ((laws_toArray.f k l1_0 l1_1).bind fun bt229 => ((impl_Reshape.f k bt222.1 bt222.2 bt229.1 bt229.2).bind fun bt236 => ((laws_eqArray.f k bt236.1 bt236.2.1 bt214.1 bt214.2.1).bind fun t244 => (if t244 = true then (laws_FnExactReshape.j0 k bt214.2.2 bt236.2.2 (bt236.2.2 != bt214.2.2) l0_0 l0_1 l1_0 l1_1 bt214.1 bt214.2.1 bt222.1 bt222.2 bt229.1 bt229.2 bt236.1 bt236.2.1) else (laws_FnExactReshape.j0 k bt214.2.2 bt236.2.2 true l0_0 l0_1 l1_0 l1_1 bt214.1 bt214.2.1 bt222.1 bt222.2 bt229.1 bt229.2 bt236.1 bt236.2.1)))))))) = some r := H
      have A19 := Aside0.mk A190
      clear A190
      replace H := Option.bind_eq_some_iff.mp H
      obtain ⟨⟨t208, t211⟩, A200, H⟩ := H
      replace H : ((spec_Reshape.f k t202 t205 t208 t211).bind fun bt214 => ((laws_toArray.f k l0_0 l0_1).bind fun bt222 => ((laws_toArray.f k l1_0 l1_1).bind fun bt229 => ((impl_Reshape.f k bt222.1 bt222.2 bt229.1 bt229.2).bind fun bt236 => ((laws_eqArray.f k bt236.1 bt236.2.1 bt214.1 bt214.2.1).bind fun t244 => (if t244 = true then (laws_FnExactReshape.j0 k bt214.2.2 bt236.2.2 (bt236.2.2 != bt214.2.2) l0_0 l0_1 l1_0 l1_1 bt214.1 bt214.2.1 bt222.1 bt222.2 bt229.1 bt229.2 bt236.1 bt236.2.1) else (laws_FnExactReshape.j0 k bt214.2.2 bt236.2.2 true l0_0 l0_1 l1_0 l1_1 bt214.1 bt214.2.1 bt222.1 bt222.2 bt229.1 bt229.2 bt236.1 bt236.2.1))))))) = some r := H
      have A20 := Aside0.mk A200
      clear A200
      replace H := Option.bind_eq_some_iff.mp H
      obtain ⟨⟨t214, t217, t220⟩, A210, H⟩ := H
      replace H : ((laws_toArray.f k l0_0 l0_1).bind fun bt222 => ((laws_toArray.f k l1_0 l1_1).bind fun bt229 => ((impl_Reshape.f k bt222.1 bt222.2 bt229.1 bt229.2).bind fun bt236 => ((laws_eqArray.f k bt236.1 bt236.2.1 t214 t217).bind fun t244 => (if t244 = true then (laws_FnExactReshape.j0 k t220 bt236.2.2 (bt236.2.2 != t220) l0_0 l0_1 l1_0 l1_1 t214 t217 bt222.1 bt222.2 bt229.1 bt229.2 bt236.1 bt236.2.1) else (laws_FnExactReshape.j0 k t220 bt236.2.2 true l0_0 l0_1 l1_0 l1_1 t214 t217 bt222.1 bt222.2 bt229.1 bt229.2 bt236.1 bt236.2.1)))))) = some r := H
      have A21 := Aside0.mk A210
      clear A210
      replace H := Option.bind_eq_some_iff.mp H
      obtain ⟨⟨t222, t225⟩, A220, H⟩ := H
      replace H : ((laws_toArray.f k l1_0 l1_1).bind fun bt229 => ((impl_Reshape.f k t222 t225 bt229.1 bt229.2).bind fun bt236 => ((laws_eqArray.f k bt236.1 bt236.2.1 t214 t217).bind fun t244 => (if t244 = true then (laws_FnExactReshape.j0 k t220 bt236.2.2 (bt236.2.2 != t220) l0_0 l0_1 l1_0 l1_1 t214 t217 t222 t225 bt229.1 bt229.2 bt236.1 bt236.2.1) else (laws_FnExactReshape.j0 k t220 bt236.2.2 true l0_0 l0_1 l1_0 l1_1 t214 t217 t222 t225 bt229.1 bt229.2 bt236.1 bt236.2.1))))) = some r := H
      have A22 := Aside0.mk A220
      clear A220
      replace H := Option.bind_eq_some_iff.mp H
      obtain ⟨⟨t229, t232⟩, A230, H⟩ := H
      replace H : ((impl_Reshape.f k t222 t225 t229 t232).bind fun bt236 => ((laws_eqArray.f k bt236.1 bt236.2.1 t214 t217).bind fun t244 => (if t244 = true then (laws_FnExactReshape.j0 k t220 bt236.2.2 (bt236.2.2 != t220) l0_0 l0_1 l1_0 l1_1 t214 t217 t222 t225 t229 t232 bt236.1 bt236.2.1) else (laws_FnExactReshape.j0 k t220 bt236.2.2 true l0_0 l0_1 l1_0 l1_1 t214 t217 t222 t225 t229 t232 bt236.1 bt236.2.1)))) = some r := H
      have A23 := Aside0.mk A230
      clear A230
      replace H := Option.bind_eq_some_iff.mp H
      obtain ⟨⟨t236, t239, t242⟩, A240, H⟩ := H
      replace H : ((laws_eqArray.f k t236 t239 t214 t217).bind fun t244 => (if t244 = true then (laws_FnExactReshape.j0 k t220 t242 (t242 != t220) l0_0 l0_1 l1_0 l1_1 t214 t217 t222 t225 t229 t232 t236 t239) else (laws_FnExactReshape.j0 k t220 t242 true l0_0 l0_1 l1_0 l1_1 t214 t217 t222 t225 t229 t232 t236 t239))) = some r := H
      have A24 := Aside0.mk A240
      clear A240
      have HC25 := Aside0.mk H
      clear H
      go_enter Try.func12, Try.ntmps12
      try go_wp2_with (first | ((with_reducible refine gate_dst (N := 2) rfl ?_); refine box_event ?hg (N := 2) ?hd (cs := #[.slice A0_0 l0_0.length c0_0, .slice A0_1 l0_1.length c0_1]) (t := 37) ?hr ?_; (case hd => rfl); (case hg => rfl); (case hr => first | (go_simp; done) | (go_simp; rfl)); intro gb198 hg w26 hbox hb; have n0_ := Aside0.mk (below_step (by repeat (first | (with_reducible first | exact HB.out | apply below_alloc | apply pw_below_drewN | apply below_drew1) | exact HB.out)) hb); have n1_ := Aside0.mk (hbox); have n2_ := Aside0.mk ((by rw [hg]; exact (below_size (by repeat (first | (with_reducible first | exact HB.out | apply below_alloc | apply pw_below_drewN | apply below_drew1) | exact HB.out))) : w.heap.size ≤ gb198)); have n3_ := Aside0.mk ((by rw [hg]; exact (below_size (by repeat (first | (with_reducible first | exact HB.out | apply below_alloc | apply pw_below_drewN | apply below_drew1) | exact HB.out))) : w.heap.size ≤ gb198)); clear HB; have HB := n0_; have BK198 := n1_; have GW198 := n2_; have GE198 := n3_; clear n0_ n1_ n2_ n3_; clear hb hbox hg) | ((with_reducible refine gate_dst (N := 3) rfl ?_); refine box_event ?hg (N := 3) ?hd (cs := #[.slice A1_0 l1_0.length c1_0, .slice A1_1 l1_1.length c1_1]) (t := 37) ?hr ?_; (case hd => rfl); (case hg => rfl); (case hr => first | (go_simp; done) | (go_simp; rfl)); intro gb199 hg w27 hbox hb; have n0_ := Aside0.mk (blk_below (g := gb198) (o := .cells #[.slice A0_0 l0_0.length c0_0, .slice A0_1 l0_1.length c0_1] 37 (0, 0)) (by (with_reducible repeat (first | refine blk_drewN ?_ _ | refine blk_drew ?_ | refine blk_alloc ?_ _)); exact BK198.out) hb); have n1_ := Aside0.mk (below_step (by repeat (first | (with_reducible first | exact HB.out | apply below_alloc | apply pw_below_drewN | apply below_drew1 | refine below_set ?_ GE198.out) | exact HB.out)) hb); have n2_ := Aside0.mk (hbox); have n3_ := Aside0.mk ((by rw [hg]; exact (below_size (by repeat (first | (with_reducible first | exact HB.out | apply below_alloc | apply pw_below_drewN | apply below_drew1 | refine below_set ?_ GE198.out) | exact HB.out))) : w.heap.size ≤ gb199)); have n4_ := Aside0.mk ((by rw [hg]; exact (below_size (by repeat (first | (with_reducible first | exact HB.out | apply below_alloc | apply pw_below_drewN | apply below_drew1 | refine below_set ?_ GE198.out) | exact HB.out))) : w.heap.size ≤ gb199)); have n5_ := Aside0.mk ((by rw [hg]; exact Nat.ne_of_lt (blk_lt (g := gb198) (o := .cells #[.slice A0_0 l0_0.length c0_0, .slice A0_1 l0_1.length c0_1] 37 (0, 0)) (by (with_reducible repeat (first | refine blk_drewN ?_ _ | refine blk_drew ?_ | refine blk_alloc ?_ _)); exact BK198.out)) : gb198 ≠ gb199)); have n6_ := Aside0.mk ((by rw [hg]; exact Nat.ne_of_gt (blk_lt (g := gb198) (o := .cells #[.slice A0_0 l0_0.length c0_0, .slice A0_1 l0_1.length c0_1] 37 (0, 0)) (by (with_reducible repeat (first | refine blk_drewN ?_ _ | refine blk_drew ?_ | refine blk_alloc ?_ _)); exact BK198.out)) : gb199 ≠ gb198)); clear BK198; clear HB; have BK198 := n0_; have HB := n1_; have BK199 := n2_; have GW199 := n3_; have GE199 := n4_; have NB198_199 := n5_; have NB199_198 := n6_; clear n0_ n1_ n2_ n3_ n4_ n5_ n6_; clear hb hbox hg; have hnb28 := NB198_199.out; have hnc28 := NB199_198.out; have hcz29_0 : w27.cell? ⟨gb198, 0, none⟩ = some (.slice A0_0 l0_0.length c0_0) := (blk_cell BK198.out 0).trans rfl; have hcz29_1 : w27.cell? ⟨gb198, 1, none⟩ = some (.slice A0_1 l0_1.length c0_1) := (blk_cell BK198.out 1).trans rfl; have hfz29_0 := blk_frozen BK198.out 0; have hfz29_1 := blk_frozen BK198.out 1) | ((with_reducible refine gate_callee (f := 23) rfl ?_); refine goesL_ (some 19) rfl rfl Try.func23 (by kernel_rfl) rfl #[.agg #[.slice A0_0 l0_0.length c0_0, .slice A0_1 l0_1.length c0_1], .int .i64 1048576] rfl (by (try simp only [List.map_toArray, List.map_cons, List.map_nil]); first | done | rfl | (simp only [List.length_drop, List.length_take]; rfl)) ?_; (with_reducible refine (laws_szArray.calls _ _ l0_0 _ _ l0_1 1048576 t200 _ ?side1 ?side2 ?side3 ?side4 A3.out).mono ?_); (case side1 => repeat (first | exact (Kd.C_below HR0_0.out HB.out) | (with_reducible refine Kd.C_alloc ?_ _) | (with_reducible refine Kd.C_drewN ?_ _) | (with_reducible refine Kd.C_drew ?_))); (case side2 => exact HC0_0.out); (case side3 => repeat (first | exact (Kd.C_below HR0_1.out HB.out) | (with_reducible refine Kd.C_alloc ?_ _) | (with_reducible refine Kd.C_drewN ?_ _) | (with_reducible refine Kd.C_drew ?_))); (case side4 => exact HC0_1.out); rintro e w30 ⟨rfl, hb⟩; refine ⟨_, rfl, ?_⟩; have n0_ := Aside0.mk (blk_below (g := gb198) (o := .cells #[.slice A0_0 l0_0.length c0_0, .slice A0_1 l0_1.length c0_1] 37 (0, 0)) (by (with_reducible repeat (first | refine blk_drewN ?_ _ | refine blk_drew ?_ | refine blk_alloc ?_ _)); exact BK198.out) hb); have n1_ := Aside0.mk (blk_below (g := gb199) (o := .cells #[.slice A1_0 l1_0.length c1_0, .slice A1_1 l1_1.length c1_1] 37 (0, 0)) (by (with_reducible repeat (first | refine blk_drewN ?_ _ | refine blk_drew ?_ | refine blk_alloc ?_ _)); exact BK199.out) hb); have n2_ := Aside0.mk (below_step (by repeat (first | (with_reducible first | exact HB.out | apply below_alloc | apply pw_below_drewN | apply below_drew1 | refine below_set ?_ GE198.out | refine below_set ?_ GE199.out) | exact HB.out)) hb); clear BK198; clear BK199; clear HB; have BK198 := n0_; have BK199 := n1_; have HB := n2_; clear n0_ n1_ n2_; (try clear hb); (try clear hb2); (try clear hk); (try clear hi); have hcz31_0 : w30.cell? ⟨gb199, 0, none⟩ = some (.slice A1_0 l1_0.length c1_0) := (blk_cell BK199.out 0).trans rfl; have hcz31_1 : w30.cell? ⟨gb199, 1, none⟩ = some (.slice A1_1 l1_1.length c1_1) := (blk_cell BK199.out 1).trans rfl; have hfz31_0 := blk_frozen BK199.out 0; have hfz31_1 := blk_frozen BK199.out 1) | ((with_reducible refine gate_callee (f := 23) rfl ?_); refine goesL_ (some 24) rfl rfl Try.func23 (by kernel_rfl) rfl #[.agg #[.slice A1_0 l1_0.length c1_0, .slice A1_1 l1_1.length c1_1], .int .i64 t200] rfl (by (try simp only [List.map_toArray, List.map_cons, List.map_nil]); first | done | rfl | (simp only [List.length_drop, List.length_take]; rfl)) ?_; (with_reducible refine (laws_szArray.calls _ _ l1_0 _ _ l1_1 t200 t201 _ ?side1 ?side2 ?side3 ?side4 A10.out).mono ?_); (case side1 => repeat (first | exact (Kd.C_below HR1_0.out HB.out) | (with_reducible refine Kd.C_alloc ?_ _) | (with_reducible refine Kd.C_drewN ?_ _) | (with_reducible refine Kd.C_drew ?_))); (case side2 => exact HC1_0.out); (case side3 => repeat (first | exact (Kd.C_below HR1_1.out HB.out) | (with_reducible refine Kd.C_alloc ?_ _) | (with_reducible refine Kd.C_drewN ?_ _) | (with_reducible refine Kd.C_drew ?_))); (case side4 => exact HC1_1.out); rintro e w32 ⟨rfl, hb⟩; refine ⟨_, rfl, ?_⟩; have n0_ := Aside0.mk (blk_below (g := gb198) (o := .cells #[.slice A0_0 l0_0.length c0_0, .slice A0_1 l0_1.length c0_1] 37 (0, 0)) (by (with_reducible repeat (first | refine blk_drewN ?_ _ | refine blk_drew ?_ | refine blk_alloc ?_ _)); exact BK198.out) hb); have n1_ := Aside0.mk (blk_below (g := gb199) (o := .cells #[.slice A1_0 l1_0.length c1_0, .slice A1_1 l1_1.length c1_1] 37 (0, 0)) (by (with_reducible repeat (first | refine blk_drewN ?_ _ | refine blk_drew ?_ | refine blk_alloc ?_ _)); exact BK199.out) hb); have n2_ := Aside0.mk (below_step (by repeat (first | (with_reducible first | exact HB.out | apply below_alloc | apply pw_below_drewN | apply below_drew1 | refine below_set ?_ GE198.out | refine below_set ?_ GE199.out) | exact HB.out)) hb); clear BK198; clear BK199; clear HB; have BK198 := n0_; have BK199 := n1_; have HB := n2_; clear n0_ n1_ n2_; (try clear hb); (try clear hb2); (try clear hk); (try clear hi)))
      have n0_ := Aside0.mk (blk_drew BK198.out)
      have n1_ := Aside0.mk (blk_drew BK199.out)
      have n2_ := Aside0.mk (below_drew1 HB.out)
      clear BK198
      clear BK199
      clear HB
      have BK198 := n0_
      have BK199 := n1_
      have HB := n2_
      clear n0_ n1_ n2_
      refine start_ (n := 11) (S := fun w' => w'.cell? ⟨gb198, 0, none⟩ = some (.slice A0_0 l0_0.length c0_0) ∧ w'.cell? ⟨gb198, 1, none⟩ = some (.slice A0_1 l0_1.length c0_1) ∧ w'.cell? ⟨gb199, 0, none⟩ = some (.slice A1_0 l1_0.length c1_0) ∧ w'.cell? ⟨gb199, 1, none⟩ = some (.slice A1_1 l1_1.length c1_1)) (ds := []) #[false, false, false, false, false, false, false, false, false, false, false] (by kernel_rfl) rfl rfl ⟨(blk_cell BK198.out 0).trans rfl, (blk_cell BK198.out 1).trans rfl, (blk_cell BK199.out 0).trans rfl, (blk_cell BK199.out 1).trans rfl⟩ (fun hHeld => ?_); refine with_tabW laws_FnExactReshape.tab8 laws_FnExactReshape.bits8 (fun HT_ HW_ => ?_)
      generalize w32.drew = w33 at BK198 BK199 HB hHeld ⊢
      refine take_ (i := 0) (N := some 28) (v := ?_) (a' := ?_) #[true, false, false, false, false, false, false, false, false, false, false] rfl rfl (take_ofW HT_.out HW_.out (by kernel_rfl)) (fun _ _ _ h => h) (Or.inl ⟨by rfl, ?_⟩) hHeld ?_ ?_
      rotate_left
      · rintro w' ⟨s0, s1, s2, s3⟩
        go_simp
        with_reducible rfl
      rotate_left
      · simp only [Act.put, List.setIfInBounds_toArray, List.set_cons_zero, List.set_cons_succ, i64_w, i32_w]
        rfl
      refine take_ (i := 2) (N := some 30) (v := ?_) (a' := ?_) #[true, false, true, false, false, false, false, false, false, false, false] rfl rfl (take_ofW HT_.out HW_.out (by kernel_rfl)) (fun _ _ _ h => h) (Or.inl ⟨by rfl, ?_⟩) hHeld ?_ ?_
      rotate_left
      · rintro w' ⟨s0, s1, s2, s3⟩
        go_simp
        with_reducible rfl
      rotate_left
      · simp only [Act.put, List.setIfInBounds_toArray, List.set_cons_zero, List.set_cons_succ, i64_w, i32_w]
        rfl
      refine join_ (σ := Value × Value × Value × Value × Value × Value × Nat) 2 #[true, true, true, true, true, true, true, true, true, false, false] (fun s_ => [(29, .agg #[s_.1, s_.2.1]), (31, .agg #[s_.2.2.1, s_.2.2.2.1]), (32, .tuple #[.agg #[s_.2.2.2.2.1, s_.2.2.2.2.2.1], .int .i64 t220]), (6, .pointer (some ⟨s_.2.2.2.2.2.2, 0, none⟩)), (27, .tuple #[.agg #[s_.2.2.2.2.1, s_.2.2.2.2.2.1], .int .i64 t220]), (33, .agg #[s_.2.2.2.2.1, s_.2.2.2.2.2.1]), (34, .int .i64 t220)]) (fun s_ w' => (w'.cell? ⟨gb198, 0, none⟩ = some (.slice A0_0 l0_0.length c0_0) ∧ w'.cell? ⟨gb198, 1, none⟩ = some (.slice A0_1 l0_1.length c0_1) ∧ w'.cell? ⟨gb199, 0, none⟩ = some (.slice A1_0 l1_0.length c1_0) ∧ w'.cell? ⟨gb199, 1, none⟩ = some (.slice A1_1 l1_1.length c1_1)) ∧ (Kd.R (Kd.int .i64) 3 w' w.heap.size (fun k_ => some k_ ≠ (s_.2.1 : Value).ownBlock ∧ some k_ ≠ (s_.2.2.1 : Value).ownBlock ∧ some k_ ≠ (s_.2.2.2.1 : Value).ownBlock ∧ some k_ ≠ (s_.2.2.2.2.1 : Value).ownBlock ∧ some k_ ≠ (s_.2.2.2.2.2.1 : Value).ownBlock) s_.1 t202) ∧ (Kd.R (Kd.int .i64) 3 w' w.heap.size (fun k_ => some k_ ≠ (s_.1 : Value).ownBlock ∧ some k_ ≠ (s_.2.2.1 : Value).ownBlock ∧ some k_ ≠ (s_.2.2.2.1 : Value).ownBlock ∧ some k_ ≠ (s_.2.2.2.2.1 : Value).ownBlock ∧ some k_ ≠ (s_.2.2.2.2.2.1 : Value).ownBlock) s_.2.1 t205) ∧ (Kd.R (Kd.int .i64) 3 w' w.heap.size (fun k_ => some k_ ≠ (s_.1 : Value).ownBlock ∧ some k_ ≠ (s_.2.1 : Value).ownBlock ∧ some k_ ≠ (s_.2.2.2.1 : Value).ownBlock ∧ some k_ ≠ (s_.2.2.2.2.1 : Value).ownBlock ∧ some k_ ≠ (s_.2.2.2.2.2.1 : Value).ownBlock) s_.2.2.1 t208) ∧ (Kd.R (Kd.int .i64) 3 w' w.heap.size (fun k_ => some k_ ≠ (s_.1 : Value).ownBlock ∧ some k_ ≠ (s_.2.1 : Value).ownBlock ∧ some k_ ≠ (s_.2.2.1 : Value).ownBlock ∧ some k_ ≠ (s_.2.2.2.2.1 : Value).ownBlock ∧ some k_ ≠ (s_.2.2.2.2.2.1 : Value).ownBlock) s_.2.2.2.1 t211) ∧ (Kd.R (Kd.int .i64) 3 w' w.heap.size (fun k_ => some k_ ≠ (s_.1 : Value).ownBlock ∧ some k_ ≠ (s_.2.1 : Value).ownBlock ∧ some k_ ≠ (s_.2.2.1 : Value).ownBlock ∧ some k_ ≠ (s_.2.2.2.1 : Value).ownBlock ∧ some k_ ≠ (s_.2.2.2.2.2.1 : Value).ownBlock) s_.2.2.2.2.1 t214) ∧ (Kd.R (Kd.int .i64) 3 w' w.heap.size (fun k_ => some k_ ≠ (s_.1 : Value).ownBlock ∧ some k_ ≠ (s_.2.1 : Value).ownBlock ∧ some k_ ≠ (s_.2.2.1 : Value).ownBlock ∧ some k_ ≠ (s_.2.2.2.1 : Value).ownBlock ∧ some k_ ≠ (s_.2.2.2.2.1 : Value).ownBlock) s_.2.2.2.2.2.1 t217) ∧ (w'.heap[gb198]? = some (.cells #[.slice A0_0 l0_0.length c0_0, .slice A0_1 l0_1.length c0_1] 37 (0, 0))) ∧ (w'.heap[gb199]? = some (.cells #[.slice A1_0 l1_0.length c1_0, .slice A1_1 l1_1.length c1_1] 37 (0, 0))) ∧ (w'.heap[s_.2.2.2.2.2.2]? = some (.cells #[.slice none 0 0, .slice none 0 0] 26 (0, 0))) ∧ (w.heap.size ≤ s_.2.2.2.2.2.2) ∧ (w.heap.size ≤ s_.2.2.2.2.2.2) ∧ (gb198 ≠ s_.2.2.2.2.2.2) ∧ (s_.2.2.2.2.2.2 ≠ gb198) ∧ (gb199 ≠ s_.2.2.2.2.2.2) ∧ (s_.2.2.2.2.2.2 ≠ gb199) ∧ (Below w.heap.size w w')) ?_ ?_
      rotate_left
      · intro hCont
        refine two_ (i := 1) (j := 8) (Ni := some 29) (Nj := some 6) #[true, true, true, false, false, false, false, false, false, false, false] #[true, false, true, false, false, false, false, false, true, false, false] rfl rfl rfl rfl (two_of HT_.out (by kernel_rfl)) (by decide) (by decide) (fun K hK => ?_) (fun K hK => ?_)
        · skip
          refine goes_ Try.func25 (by kernel_rfl) rfl #[.agg #[.slice A0_0 l0_0.length c0_0, .slice A0_1 l0_1.length c0_1]] (by rfl) rfl rfl (by (try simp only [List.map_toArray, List.map_cons, List.map_nil]); first | done | rfl | (simp only [List.length_drop, List.length_take]; rfl)) ?_
          with_reducible refine (laws_toArray.calls k _ _ l0_0 _ _ l0_1 t202 t205 _ ?side1 ?side2 ?side3 ?side4 A19.out).mono ?_
          (case side1 => repeat (first | exact (Kd.C_below HR0_0.out HB.out) | (with_reducible refine Kd.C_alloc ?_ _) | (with_reducible refine Kd.C_drewN ?_ _) | (with_reducible refine Kd.C_drew ?_)))
          (case side2 => exact HC0_0.out)
          (case side3 => repeat (first | exact (Kd.C_below HR0_1.out HB.out) | (with_reducible refine Kd.C_alloc ?_ _) | (with_reducible refine Kd.C_drewN ?_ _) | (with_reducible refine Kd.C_drew ?_)))
          (case side4 => exact HC0_1.out)
          rintro e w34 ⟨v203, v206, rfl, ho0, ho1, hb⟩
          refine ⟨_, rfl, ?_⟩
          have n0_ := Aside0.mk (Kd.R_lower ho0 (below_size (by repeat (first | (with_reducible first | exact HB.out | apply below_alloc | apply pw_below_drewN | apply below_drew1 | refine below_set ?_ GE198.out | refine below_set ?_ GE199.out) | exact HB.out))))
          have n1_ := Aside0.mk (Kd.R_lower ho1 (below_size (by repeat (first | (with_reducible first | exact HB.out | apply below_alloc | apply pw_below_drewN | apply below_drew1 | refine below_set ?_ GE198.out | refine below_set ?_ GE199.out) | exact HB.out))))
          have n2_ := Aside0.mk (blk_below (g := gb198) (o := .cells #[.slice A0_0 l0_0.length c0_0, .slice A0_1 l0_1.length c0_1] 37 (0, 0)) (by (with_reducible repeat (first | refine blk_drewN ?_ _ | refine blk_drew ?_ | refine blk_alloc ?_ _)); exact BK198.out) hb)
          have n3_ := Aside0.mk (blk_below (g := gb199) (o := .cells #[.slice A1_0 l1_0.length c1_0, .slice A1_1 l1_1.length c1_1] 37 (0, 0)) (by (with_reducible repeat (first | refine blk_drewN ?_ _ | refine blk_drew ?_ | refine blk_alloc ?_ _)); exact BK199.out) hb)
          have n4_ := Aside0.mk (below_step (by repeat (first | (with_reducible first | exact HB.out | apply below_alloc | apply pw_below_drewN | apply below_drew1 | refine below_set ?_ GE198.out | refine below_set ?_ GE199.out) | exact HB.out)) hb)
          clear BK198
          clear BK199
          clear HB
          have HO204 := n0_
          have HO207 := n1_
          have BK198 := n2_
          have BK199 := n3_
          have HB := n4_
          clear n0_ n1_ n2_ n3_ n4_
          (try clear hb)
          (try clear hb2)
          (try clear hk)
          (try clear hi)
          (try clear ho0)
          (try clear ho1)
          refine hK.out _ _ ⟨(blk_cell BK198.out 0).trans rfl, (blk_cell BK198.out 1).trans rfl, (blk_cell BK199.out 0).trans rfl, (blk_cell BK199.out 1).trans rfl⟩ (fun hHeld => ?_)
          clear hK K
          refine norm_ (a' := ?_) ?_ ?_
          rotate_left
          · show Act.put _ (some 29) _ = _
            simp only [Act.put, List.setIfInBounds_toArray, List.set_cons_zero, List.set_cons_succ, i64_w, i32_w]
            rfl
          refine two_ (i := 3) (j := 8) (Ni := some 31) (Nj := some 6) #[true, true, true, true, false, false, false, false, false, false, false] #[true, true, true, false, false, false, false, false, true, false, false] rfl rfl rfl rfl (two_of HT_.out (by kernel_rfl)) (by decide) (by decide) (fun K hK => ?_) (fun K hK => ?_)
          · skip
            refine goes_ Try.func25 (by kernel_rfl) rfl #[.agg #[.slice A1_0 l1_0.length c1_0, .slice A1_1 l1_1.length c1_1]] (by rfl) rfl rfl (by (try simp only [List.map_toArray, List.map_cons, List.map_nil]); first | done | rfl | (simp only [List.length_drop, List.length_take]; rfl)) ?_
            with_reducible refine (laws_toArray.calls k _ _ l1_0 _ _ l1_1 t208 t211 _ ?side1 ?side2 ?side3 ?side4 A20.out).mono ?_
            (case side1 => repeat (first | exact (Kd.C_below HR1_0.out HB.out) | (with_reducible refine Kd.C_alloc ?_ _) | (with_reducible refine Kd.C_drewN ?_ _) | (with_reducible refine Kd.C_drew ?_)))
            (case side2 => exact HC1_0.out)
            (case side3 => repeat (first | exact (Kd.C_below HR1_1.out HB.out) | (with_reducible refine Kd.C_alloc ?_ _) | (with_reducible refine Kd.C_drewN ?_ _) | (with_reducible refine Kd.C_drew ?_)))
            (case side4 => exact HC1_1.out)
            rintro e w35 ⟨v209, v212, rfl, ho0, ho1, hb⟩
            refine ⟨_, rfl, ?_⟩
            have n0_ := Aside0.mk (Kd.R_mono (Kd.R_told (Kd.R_told (Kd.R_old (by (with_reducible repeat (first | apply Kd.R_alloc | apply Kd.R_drewN | apply Kd.R_drew)); exact HO204.out) hb) (Kd.R_base ho0)) (Kd.R_base ho1)) (fun _ h_ => h_.1))
            have n1_ := Aside0.mk (Kd.R_mono (Kd.R_told (Kd.R_told (Kd.R_old (by (with_reducible repeat (first | apply Kd.R_alloc | apply Kd.R_drewN | apply Kd.R_drew)); exact HO207.out) hb) (Kd.R_base ho0)) (Kd.R_base ho1)) (fun _ h_ => h_.1))
            have n2_ := Aside0.mk (Kd.R_lower (Kd.R_new' (Kd.R_new' ho0 (Kd.R_lt (by (with_reducible repeat (first | apply Kd.R_alloc | apply Kd.R_drewN | apply Kd.R_drew)); exact HO204.out))) (Kd.R_lt (by (with_reducible repeat (first | apply Kd.R_alloc | apply Kd.R_drewN | apply Kd.R_drew)); exact HO207.out))) (below_size (by repeat (first | (with_reducible first | exact HB.out | apply below_alloc | apply pw_below_drewN | apply below_drew1 | refine below_set ?_ GE198.out | refine below_set ?_ GE199.out) | exact HB.out))))
            have n3_ := Aside0.mk (Kd.R_lower (Kd.R_new' (Kd.R_new' ho1 (Kd.R_lt (by (with_reducible repeat (first | apply Kd.R_alloc | apply Kd.R_drewN | apply Kd.R_drew)); exact HO204.out))) (Kd.R_lt (by (with_reducible repeat (first | apply Kd.R_alloc | apply Kd.R_drewN | apply Kd.R_drew)); exact HO207.out))) (below_size (by repeat (first | (with_reducible first | exact HB.out | apply below_alloc | apply pw_below_drewN | apply below_drew1 | refine below_set ?_ GE198.out | refine below_set ?_ GE199.out) | exact HB.out))))
            have n4_ := Aside0.mk (blk_below (g := gb198) (o := .cells #[.slice A0_0 l0_0.length c0_0, .slice A0_1 l0_1.length c0_1] 37 (0, 0)) (by (with_reducible repeat (first | refine blk_drewN ?_ _ | refine blk_drew ?_ | refine blk_alloc ?_ _)); exact BK198.out) hb)
            have n5_ := Aside0.mk (blk_below (g := gb199) (o := .cells #[.slice A1_0 l1_0.length c1_0, .slice A1_1 l1_1.length c1_1] 37 (0, 0)) (by (with_reducible repeat (first | refine blk_drewN ?_ _ | refine blk_drew ?_ | refine blk_alloc ?_ _)); exact BK199.out) hb)
            have n6_ := Aside0.mk (below_step (by repeat (first | (with_reducible first | exact HB.out | apply below_alloc | apply pw_below_drewN | apply below_drew1 | refine below_set ?_ GE198.out | refine below_set ?_ GE199.out) | exact HB.out)) hb)
            clear HO204
            clear HO207
            clear BK198
            clear BK199
            clear HB
            have HO204 := n0_
            have HO207 := n1_
            have HO210 := n2_
            have HO213 := n3_
            have BK198 := n4_
            have BK199 := n5_
            have HB := n6_
            clear n0_ n1_ n2_ n3_ n4_ n5_ n6_
            (try clear hb)
            (try clear hb2)
            (try clear hk)
            (try clear hi)
            (try clear ho0)
            (try clear ho1)
            obtain ⟨Ao36, co36, eo36⟩ := Kd.R_slice HO204.out
            (first | subst eo36 | (injection eo36 with f1_ f2_ f3_; have f4_ := f1_.symm; have f5_ := f3_.symm; clear f1_ f2_ f3_; subst f4_; subst f5_))
            obtain ⟨Ao37, co37, eo37⟩ := Kd.R_slice HO207.out
            (first | subst eo37 | (injection eo37 with f1_ f2_ f3_; have f4_ := f1_.symm; have f5_ := f3_.symm; clear f1_ f2_ f3_; subst f4_; subst f5_))
            obtain ⟨Ao38, co38, eo38⟩ := Kd.R_slice HO210.out
            (first | subst eo38 | (injection eo38 with f1_ f2_ f3_; have f4_ := f1_.symm; have f5_ := f3_.symm; clear f1_ f2_ f3_; subst f4_; subst f5_))
            obtain ⟨Ao39, co39, eo39⟩ := Kd.R_slice HO213.out
            (first | subst eo39 | (injection eo39 with f1_ f2_ f3_; have f4_ := f1_.symm; have f5_ := f3_.symm; clear f1_ f2_ f3_; subst f4_; subst f5_))
            refine hK.out _ _ ⟨(blk_cell BK198.out 0).trans rfl, (blk_cell BK198.out 1).trans rfl, (blk_cell BK199.out 0).trans rfl, (blk_cell BK199.out 1).trans rfl⟩ (fun hHeld => ?_)
            clear hK K
            refine norm_ (a' := ?_) ?_ ?_
            rotate_left
            · show Act.put _ (some 31) _ = _
              simp only [Act.put, List.setIfInBounds_toArray, List.set_cons_zero, List.set_cons_succ, i64_w, i32_w]
              rfl
            refine two_ (i := 4) (j := 8) (Ni := some 32) (Nj := some 6) #[true, true, true, true, true, false, false, false, false, false, false] #[true, true, true, true, false, false, false, false, true, false, false] rfl rfl rfl rfl (two_of HT_.out (by kernel_rfl)) (by decide) (by decide) (fun K hK => ?_) (fun K hK => ?_)
            · skip
              refine goes_ Try.func63 (by kernel_rfl) rfl #[.agg #[.slice Ao36 t202.length co36, .slice Ao37 t205.length co37], .agg #[.slice Ao38 t208.length co38, .slice Ao39 t211.length co39]] (by rfl) rfl rfl (by (try simp only [List.map_toArray, List.map_cons, List.map_nil]); first | done | rfl | (simp only [List.length_drop, List.length_take]; rfl)) ?_
              with_reducible refine (spec_Reshape.calls k _ _ t202 _ _ t205 _ _ t208 _ _ t211 t214 t217 t220 _ ?side1 ?side2 ?side3 ?side4 ?side5 ?side6 ?side7 ?side8 A21.out).mono ?_
              (case side1 => repeat (first | exact (Kd.R_reads' HO204.out).2.2 | (with_reducible refine Kd.C_alloc ?_ _) | (with_reducible refine Kd.C_drewN ?_ _) | (with_reducible refine Kd.C_drew ?_)))
              (case side2 => exact (Kd.R_reads' HO204.out).2.1)
              (case side3 => repeat (first | exact (Kd.R_reads' HO207.out).2.2 | (with_reducible refine Kd.C_alloc ?_ _) | (with_reducible refine Kd.C_drewN ?_ _) | (with_reducible refine Kd.C_drew ?_)))
              (case side4 => exact (Kd.R_reads' HO207.out).2.1)
              (case side5 => repeat (first | exact (Kd.R_reads' HO210.out).2.2 | (with_reducible refine Kd.C_alloc ?_ _) | (with_reducible refine Kd.C_drewN ?_ _) | (with_reducible refine Kd.C_drew ?_)))
              (case side6 => exact (Kd.R_reads' HO210.out).2.1)
              (case side7 => repeat (first | exact (Kd.R_reads' HO213.out).2.2 | (with_reducible refine Kd.C_alloc ?_ _) | (with_reducible refine Kd.C_drewN ?_ _) | (with_reducible refine Kd.C_drew ?_)))
              (case side8 => exact (Kd.R_reads' HO213.out).2.1)
              rintro e w40 ⟨v215, v218, rfl, ho0, ho1, hb⟩
              refine ⟨_, rfl, ?_⟩
              have n0_ := Aside0.mk (Kd.R_mono (Kd.R_told (Kd.R_told (Kd.R_old (by (with_reducible repeat (first | apply Kd.R_alloc | apply Kd.R_drewN | apply Kd.R_drew)); exact HO204.out) hb) (Kd.R_base ho0)) (Kd.R_base ho1)) (fun _ h_ => h_.1))
              have n1_ := Aside0.mk (Kd.R_mono (Kd.R_told (Kd.R_told (Kd.R_old (by (with_reducible repeat (first | apply Kd.R_alloc | apply Kd.R_drewN | apply Kd.R_drew)); exact HO207.out) hb) (Kd.R_base ho0)) (Kd.R_base ho1)) (fun _ h_ => h_.1))
              have n2_ := Aside0.mk (Kd.R_mono (Kd.R_told (Kd.R_told (Kd.R_old (by (with_reducible repeat (first | apply Kd.R_alloc | apply Kd.R_drewN | apply Kd.R_drew)); exact HO210.out) hb) (Kd.R_base ho0)) (Kd.R_base ho1)) (fun _ h_ => h_.1))
              have n3_ := Aside0.mk (Kd.R_mono (Kd.R_told (Kd.R_told (Kd.R_old (by (with_reducible repeat (first | apply Kd.R_alloc | apply Kd.R_drewN | apply Kd.R_drew)); exact HO213.out) hb) (Kd.R_base ho0)) (Kd.R_base ho1)) (fun _ h_ => h_.1))
              have n4_ := Aside0.mk (Kd.R_lower (Kd.R_new' (Kd.R_new' (Kd.R_new' (Kd.R_new' ho0 (Kd.R_lt (by (with_reducible repeat (first | apply Kd.R_alloc | apply Kd.R_drewN | apply Kd.R_drew)); exact HO204.out))) (Kd.R_lt (by (with_reducible repeat (first | apply Kd.R_alloc | apply Kd.R_drewN | apply Kd.R_drew)); exact HO207.out))) (Kd.R_lt (by (with_reducible repeat (first | apply Kd.R_alloc | apply Kd.R_drewN | apply Kd.R_drew)); exact HO210.out))) (Kd.R_lt (by (with_reducible repeat (first | apply Kd.R_alloc | apply Kd.R_drewN | apply Kd.R_drew)); exact HO213.out))) (below_size (by repeat (first | (with_reducible first | exact HB.out | apply below_alloc | apply pw_below_drewN | apply below_drew1 | refine below_set ?_ GE198.out | refine below_set ?_ GE199.out) | exact HB.out))))
              have n5_ := Aside0.mk (Kd.R_lower (Kd.R_new' (Kd.R_new' (Kd.R_new' (Kd.R_new' ho1 (Kd.R_lt (by (with_reducible repeat (first | apply Kd.R_alloc | apply Kd.R_drewN | apply Kd.R_drew)); exact HO204.out))) (Kd.R_lt (by (with_reducible repeat (first | apply Kd.R_alloc | apply Kd.R_drewN | apply Kd.R_drew)); exact HO207.out))) (Kd.R_lt (by (with_reducible repeat (first | apply Kd.R_alloc | apply Kd.R_drewN | apply Kd.R_drew)); exact HO210.out))) (Kd.R_lt (by (with_reducible repeat (first | apply Kd.R_alloc | apply Kd.R_drewN | apply Kd.R_drew)); exact HO213.out))) (below_size (by repeat (first | (with_reducible first | exact HB.out | apply below_alloc | apply pw_below_drewN | apply below_drew1 | refine below_set ?_ GE198.out | refine below_set ?_ GE199.out) | exact HB.out))))
              have n6_ := Aside0.mk (blk_below (g := gb198) (o := .cells #[.slice A0_0 l0_0.length c0_0, .slice A0_1 l0_1.length c0_1] 37 (0, 0)) (by (with_reducible repeat (first | refine blk_drewN ?_ _ | refine blk_drew ?_ | refine blk_alloc ?_ _)); exact BK198.out) hb)
              have n7_ := Aside0.mk (blk_below (g := gb199) (o := .cells #[.slice A1_0 l1_0.length c1_0, .slice A1_1 l1_1.length c1_1] 37 (0, 0)) (by (with_reducible repeat (first | refine blk_drewN ?_ _ | refine blk_drew ?_ | refine blk_alloc ?_ _)); exact BK199.out) hb)
              have n8_ := Aside0.mk (below_step (by repeat (first | (with_reducible first | exact HB.out | apply below_alloc | apply pw_below_drewN | apply below_drew1 | refine below_set ?_ GE198.out | refine below_set ?_ GE199.out) | exact HB.out)) hb)
              clear HO204
              clear HO207
              clear HO210
              clear HO213
              clear BK198
              clear BK199
              clear HB
              have HO204 := n0_
              have HO207 := n1_
              have HO210 := n2_
              have HO213 := n3_
              have HO216 := n4_
              have HO219 := n5_
              have BK198 := n6_
              have BK199 := n7_
              have HB := n8_
              clear n0_ n1_ n2_ n3_ n4_ n5_ n6_ n7_ n8_
              (try clear hb)
              (try clear hb2)
              (try clear hk)
              (try clear hi)
              (try clear ho0)
              (try clear ho1)
              refine hK.out _ _ ⟨(blk_cell BK198.out 0).trans rfl, (blk_cell BK198.out 1).trans rfl, (blk_cell BK199.out 0).trans rfl, (blk_cell BK199.out 1).trans rfl⟩ (fun hHeld => ?_)
              clear hK K
              refine norm_ (a' := ?_) ?_ ?_
              rotate_left
              · show Act.put _ (some 32) _ = _
                simp only [Act.put, List.setIfInBounds_toArray, List.set_cons_zero, List.set_cons_succ, i64_w, i32_w]
                rfl
              refine pure_ (i := 5) (N := some 27) (v := ?_) (a' := ?_) #[true, true, true, true, true, true, false, false, false, false, false] rfl rfl (any_of HT_.out (by kernel_rfl)) (fun _ _ _ h => h) (Or.inl ⟨by rfl, ?_⟩) ?_ ?_
              rotate_left
              · intro w'
                go_simp
                with_reducible rfl
              rotate_left
              · simp only [Act.put, List.setIfInBounds_toArray, List.set_cons_zero, List.set_cons_succ, i64_w, i32_w]
                rfl
              refine pure_ (i := 6) (N := some 33) (v := ?_) (a' := ?_) #[true, true, true, true, true, true, true, false, false, false, false] rfl rfl (any_of HT_.out (by kernel_rfl)) (fun _ _ _ h => h) (Or.inl ⟨by rfl, ?_⟩) ?_ ?_
              rotate_left
              · intro w'
                go_simp
                with_reducible rfl
              rotate_left
              · simp only [Act.put, List.setIfInBounds_toArray, List.set_cons_zero, List.set_cons_succ, i64_w, i32_w]
                rfl
              refine pure_ (i := 7) (N := some 34) (v := ?_) (a' := ?_) #[true, true, true, true, true, true, true, true, false, false, false] rfl rfl (any_of HT_.out (by kernel_rfl)) (fun _ _ _ h => h) (Or.inl ⟨by rfl, ?_⟩) ?_ ?_
              rotate_left
              · intro w'
                go_simp
                with_reducible rfl
              rotate_left
              · simp only [Act.put, List.setIfInBounds_toArray, List.set_cons_zero, List.set_cons_succ, i64_w, i32_w]
                rfl
              refine one_ (i := 8) (N := some 6) #[true, true, true, true, true, true, true, true, true, false, false] rfl rfl (one_of HT_.out (by kernel_rfl)) (by decide) (fun K hK => ?_)
              refine box_step ?hg (N := 6) ?hd (cs := #[.slice none 0 0, .slice none 0 0]) (t := 26) ?hr ?_; (case hd => rfl); (case hg => rfl); (case hr => first | (go_simp; done) | (go_simp; rfl))
              intro gb221 hg w41 hbox hb
              have n0_ := Aside0.mk (Kd.R_below (by (with_reducible repeat (first | apply Kd.R_alloc | apply Kd.R_drewN | apply Kd.R_drew)); exact HO204.out) hb)
              have n1_ := Aside0.mk (Kd.R_below (by (with_reducible repeat (first | apply Kd.R_alloc | apply Kd.R_drewN | apply Kd.R_drew)); exact HO207.out) hb)
              have n2_ := Aside0.mk (Kd.R_below (by (with_reducible repeat (first | apply Kd.R_alloc | apply Kd.R_drewN | apply Kd.R_drew)); exact HO210.out) hb)
              have n3_ := Aside0.mk (Kd.R_below (by (with_reducible repeat (first | apply Kd.R_alloc | apply Kd.R_drewN | apply Kd.R_drew)); exact HO213.out) hb)
              have n4_ := Aside0.mk (Kd.R_below (by (with_reducible repeat (first | apply Kd.R_alloc | apply Kd.R_drewN | apply Kd.R_drew)); exact HO216.out) hb)
              have n5_ := Aside0.mk (Kd.R_below (by (with_reducible repeat (first | apply Kd.R_alloc | apply Kd.R_drewN | apply Kd.R_drew)); exact HO219.out) hb)
              have n6_ := Aside0.mk (blk_below (g := gb198) (o := .cells #[.slice A0_0 l0_0.length c0_0, .slice A0_1 l0_1.length c0_1] 37 (0, 0)) (by (with_reducible repeat (first | refine blk_drewN ?_ _ | refine blk_drew ?_ | refine blk_alloc ?_ _)); exact BK198.out) hb)
              have n7_ := Aside0.mk (blk_below (g := gb199) (o := .cells #[.slice A1_0 l1_0.length c1_0, .slice A1_1 l1_1.length c1_1] 37 (0, 0)) (by (with_reducible repeat (first | refine blk_drewN ?_ _ | refine blk_drew ?_ | refine blk_alloc ?_ _)); exact BK199.out) hb)
              have n8_ := Aside0.mk (below_step (by repeat (first | (with_reducible first | exact HB.out | apply below_alloc | apply pw_below_drewN | apply below_drew1 | refine below_set ?_ GE198.out | refine below_set ?_ GE199.out) | exact HB.out)) hb)
              have n9_ := Aside0.mk (hbox)
              have n10_ := Aside0.mk ((by rw [hg]; exact (below_size (by repeat (first | (with_reducible first | exact HB.out | apply below_alloc | apply pw_below_drewN | apply below_drew1 | refine below_set ?_ GE198.out | refine below_set ?_ GE199.out) | exact HB.out))) : w.heap.size ≤ gb221))
              have n11_ := Aside0.mk ((by rw [hg]; exact (below_size (by repeat (first | (with_reducible first | exact HB.out | apply below_alloc | apply pw_below_drewN | apply below_drew1 | refine below_set ?_ GE198.out | refine below_set ?_ GE199.out) | exact HB.out))) : w.heap.size ≤ gb221))
              have n12_ := Aside0.mk ((by rw [hg]; exact Nat.ne_of_lt (blk_lt (g := gb198) (o := .cells #[.slice A0_0 l0_0.length c0_0, .slice A0_1 l0_1.length c0_1] 37 (0, 0)) (by (with_reducible repeat (first | refine blk_drewN ?_ _ | refine blk_drew ?_ | refine blk_alloc ?_ _)); exact BK198.out)) : gb198 ≠ gb221))
              have n13_ := Aside0.mk ((by rw [hg]; exact Nat.ne_of_gt (blk_lt (g := gb198) (o := .cells #[.slice A0_0 l0_0.length c0_0, .slice A0_1 l0_1.length c0_1] 37 (0, 0)) (by (with_reducible repeat (first | refine blk_drewN ?_ _ | refine blk_drew ?_ | refine blk_alloc ?_ _)); exact BK198.out)) : gb221 ≠ gb198))
              have n14_ := Aside0.mk ((by rw [hg]; exact Nat.ne_of_lt (blk_lt (g := gb199) (o := .cells #[.slice A1_0 l1_0.length c1_0, .slice A1_1 l1_1.length c1_1] 37 (0, 0)) (by (with_reducible repeat (first | refine blk_drewN ?_ _ | refine blk_drew ?_ | refine blk_alloc ?_ _)); exact BK199.out)) : gb199 ≠ gb221))
              have n15_ := Aside0.mk ((by rw [hg]; exact Nat.ne_of_gt (blk_lt (g := gb199) (o := .cells #[.slice A1_0 l1_0.length c1_0, .slice A1_1 l1_1.length c1_1] 37 (0, 0)) (by (with_reducible repeat (first | refine blk_drewN ?_ _ | refine blk_drew ?_ | refine blk_alloc ?_ _)); exact BK199.out)) : gb221 ≠ gb199))
              clear HO204
              clear HO207
              clear HO210
              clear HO213
              clear HO216
              clear HO219
              clear BK198
              clear BK199
              clear HB
              have HO204 := n0_
              have HO207 := n1_
              have HO210 := n2_
              have HO213 := n3_
              have HO216 := n4_
              have HO219 := n5_
              have BK198 := n6_
              have BK199 := n7_
              have HB := n8_
              have BK221 := n9_
              have GW221 := n10_
              have GE221 := n11_
              have NB198_221 := n12_
              have NB221_198 := n13_
              have NB199_221 := n14_
              have NB221_199 := n15_
              clear n0_ n1_ n2_ n3_ n4_ n5_ n6_ n7_ n8_ n9_ n10_ n11_ n12_ n13_ n14_ n15_
              clear hb hbox hg
              refine hK.out _ _ ⟨(blk_cell BK198.out 0).trans rfl, (blk_cell BK198.out 1).trans rfl, (blk_cell BK199.out 0).trans rfl, (blk_cell BK199.out 1).trans rfl⟩ (fun hHeld => ?_)
              clear hK K
              refine norm_ (a' := ?_) ?_ ?_
              rotate_left
              · show Act.put _ (some 6) _ = _
                simp only [Act.put, List.setIfInBounds_toArray, List.set_cons_zero, List.set_cons_succ, i64_w, i32_w]
                rfl
              exact norm_ (by simp only [putAll, Act.put, List.setIfInBounds_toArray, List.set_cons_zero, List.set_cons_succ]) (hCont (.slice Ao36 t202.length co36, .slice Ao37 t205.length co37, .slice Ao38 t208.length co38, .slice Ao39 t211.length co39, v215, v218, gb221) _ ⟨hHeld, (by (with_reducible repeat (first | apply Kd.R_alloc | apply Kd.R_drewN | apply Kd.R_drew)); exact Kd.R_mono HO204.out (fun _ hk => ⟨hk.1.1.1.1, ⟨hk.1.1.1.2, ⟨hk.1.1.2, ⟨hk.1.2, hk.2⟩⟩⟩⟩)), (by (with_reducible repeat (first | apply Kd.R_alloc | apply Kd.R_drewN | apply Kd.R_drew)); exact Kd.R_mono HO207.out (fun _ hk => ⟨hk.1.1.1.1, ⟨hk.1.1.1.2, ⟨hk.1.1.2, ⟨hk.1.2, hk.2⟩⟩⟩⟩)), (by (with_reducible repeat (first | apply Kd.R_alloc | apply Kd.R_drewN | apply Kd.R_drew)); exact Kd.R_mono HO210.out (fun _ hk => ⟨hk.1.1.1.2, ⟨hk.1.1.2, ⟨hk.1.1.1.1, ⟨hk.1.2, hk.2⟩⟩⟩⟩)), (by (with_reducible repeat (first | apply Kd.R_alloc | apply Kd.R_drewN | apply Kd.R_drew)); exact Kd.R_mono HO213.out (fun _ hk => ⟨hk.1.1.1.2, ⟨hk.1.1.2, ⟨hk.1.1.1.1, ⟨hk.1.2, hk.2⟩⟩⟩⟩)), (by (with_reducible repeat (first | apply Kd.R_alloc | apply Kd.R_drewN | apply Kd.R_drew)); exact Kd.R_mono HO216.out (fun _ hk => ⟨hk.1.1.1.2, ⟨hk.1.1.2, ⟨hk.1.2, ⟨hk.2, hk.1.1.1.1⟩⟩⟩⟩)), (by (with_reducible repeat (first | apply Kd.R_alloc | apply Kd.R_drewN | apply Kd.R_drew)); exact Kd.R_mono HO219.out (fun _ hk => ⟨hk.1.1.1.2, ⟨hk.1.1.2, ⟨hk.1.2, ⟨hk.2, hk.1.1.1.1⟩⟩⟩⟩)), (by (with_reducible repeat (first | refine blk_drewN ?_ _ | refine blk_drew ?_ | refine blk_alloc ?_ _)); exact BK198.out), (by (with_reducible repeat (first | refine blk_drewN ?_ _ | refine blk_drew ?_ | refine blk_alloc ?_ _)); exact BK199.out), (by (with_reducible repeat (first | refine blk_drewN ?_ _ | refine blk_drew ?_ | refine blk_alloc ?_ _)); exact BK221.out), GW221.out, GE221.out, NB198_221.out, NB221_198.out, NB199_221.out, NB221_199.out, (by repeat (first | (with_reducible first | exact HB.out | apply below_alloc | apply pw_below_drewN | apply below_drew1 | refine below_set ?_ GE198.out | refine below_set ?_ GE199.out | refine below_set ?_ GE221.out) | exact HB.out))⟩)
            · skip
              refine box_step ?hg (N := 6) ?hd (cs := #[.slice none 0 0, .slice none 0 0]) (t := 26) ?hr ?_; (case hd => rfl); (case hg => rfl); (case hr => first | (go_simp; done) | (go_simp; rfl))
              intro gb221 hg w36 hbox hb
              have n0_ := Aside0.mk (Kd.R_below (by (with_reducible repeat (first | apply Kd.R_alloc | apply Kd.R_drewN | apply Kd.R_drew)); exact HO204.out) hb)
              have n1_ := Aside0.mk (Kd.R_below (by (with_reducible repeat (first | apply Kd.R_alloc | apply Kd.R_drewN | apply Kd.R_drew)); exact HO207.out) hb)
              have n2_ := Aside0.mk (Kd.R_below (by (with_reducible repeat (first | apply Kd.R_alloc | apply Kd.R_drewN | apply Kd.R_drew)); exact HO210.out) hb)
              have n3_ := Aside0.mk (Kd.R_below (by (with_reducible repeat (first | apply Kd.R_alloc | apply Kd.R_drewN | apply Kd.R_drew)); exact HO213.out) hb)
              have n4_ := Aside0.mk (blk_below (g := gb198) (o := .cells #[.slice A0_0 l0_0.length c0_0, .slice A0_1 l0_1.length c0_1] 37 (0, 0)) (by (with_reducible repeat (first | refine blk_drewN ?_ _ | refine blk_drew ?_ | refine blk_alloc ?_ _)); exact BK198.out) hb)
              have n5_ := Aside0.mk (blk_below (g := gb199) (o := .cells #[.slice A1_0 l1_0.length c1_0, .slice A1_1 l1_1.length c1_1] 37 (0, 0)) (by (with_reducible repeat (first | refine blk_drewN ?_ _ | refine blk_drew ?_ | refine blk_alloc ?_ _)); exact BK199.out) hb)
              have n6_ := Aside0.mk (below_step (by repeat (first | (with_reducible first | exact HB.out | apply below_alloc | apply pw_below_drewN | apply below_drew1 | refine below_set ?_ GE198.out | refine below_set ?_ GE199.out) | exact HB.out)) hb)
              have n7_ := Aside0.mk (hbox)
              have n8_ := Aside0.mk ((by rw [hg]; exact (below_size (by repeat (first | (with_reducible first | exact HB.out | apply below_alloc | apply pw_below_drewN | apply below_drew1 | refine below_set ?_ GE198.out | refine below_set ?_ GE199.out) | exact HB.out))) : w.heap.size ≤ gb221))
              have n9_ := Aside0.mk ((by rw [hg]; exact (below_size (by repeat (first | (with_reducible first | exact HB.out | apply below_alloc | apply pw_below_drewN | apply below_drew1 | refine below_set ?_ GE198.out | refine below_set ?_ GE199.out) | exact HB.out))) : w.heap.size ≤ gb221))
              have n10_ := Aside0.mk ((by rw [hg]; exact Nat.ne_of_lt (blk_lt (g := gb198) (o := .cells #[.slice A0_0 l0_0.length c0_0, .slice A0_1 l0_1.length c0_1] 37 (0, 0)) (by (with_reducible repeat (first | refine blk_drewN ?_ _ | refine blk_drew ?_ | refine blk_alloc ?_ _)); exact BK198.out)) : gb198 ≠ gb221))
              have n11_ := Aside0.mk ((by rw [hg]; exact Nat.ne_of_gt (blk_lt (g := gb198) (o := .cells #[.slice A0_0 l0_0.length c0_0, .slice A0_1 l0_1.length c0_1] 37 (0, 0)) (by (with_reducible repeat (first | refine blk_drewN ?_ _ | refine blk_drew ?_ | refine blk_alloc ?_ _)); exact BK198.out)) : gb221 ≠ gb198))
              have n12_ := Aside0.mk ((by rw [hg]; exact Nat.ne_of_lt (blk_lt (g := gb199) (o := .cells #[.slice A1_0 l1_0.length c1_0, .slice A1_1 l1_1.length c1_1] 37 (0, 0)) (by (with_reducible repeat (first | refine blk_drewN ?_ _ | refine blk_drew ?_ | refine blk_alloc ?_ _)); exact BK199.out)) : gb199 ≠ gb221))
              have n13_ := Aside0.mk ((by rw [hg]; exact Nat.ne_of_gt (blk_lt (g := gb199) (o := .cells #[.slice A1_0 l1_0.length c1_0, .slice A1_1 l1_1.length c1_1] 37 (0, 0)) (by (with_reducible repeat (first | refine blk_drewN ?_ _ | refine blk_drew ?_ | refine blk_alloc ?_ _)); exact BK199.out)) : gb221 ≠ gb199))
              clear HO204
              clear HO207
              clear HO210
              clear HO213
              clear BK198
              clear BK199
              clear HB
              have HO204 := n0_
              have HO207 := n1_
              have HO210 := n2_
              have HO213 := n3_
              have BK198 := n4_
              have BK199 := n5_
              have HB := n6_
              have BK221 := n7_
              have GW221 := n8_
              have GE221 := n9_
              have NB198_221 := n10_
              have NB221_198 := n11_
              have NB199_221 := n12_
              have NB221_199 := n13_
              clear n0_ n1_ n2_ n3_ n4_ n5_ n6_ n7_ n8_ n9_ n10_ n11_ n12_ n13_
              clear hb hbox hg
              obtain ⟨Ao37, co37, eo37⟩ := Kd.R_slice HO204.out
              (first | subst eo37 | (injection eo37 with f1_ f2_ f3_; have f4_ := f1_.symm; have f5_ := f3_.symm; clear f1_ f2_ f3_; subst f4_; subst f5_))
              obtain ⟨Ao38, co38, eo38⟩ := Kd.R_slice HO207.out
              (first | subst eo38 | (injection eo38 with f1_ f2_ f3_; have f4_ := f1_.symm; have f5_ := f3_.symm; clear f1_ f2_ f3_; subst f4_; subst f5_))
              obtain ⟨Ao39, co39, eo39⟩ := Kd.R_slice HO210.out
              (first | subst eo39 | (injection eo39 with f1_ f2_ f3_; have f4_ := f1_.symm; have f5_ := f3_.symm; clear f1_ f2_ f3_; subst f4_; subst f5_))
              obtain ⟨Ao40, co40, eo40⟩ := Kd.R_slice HO213.out
              (first | subst eo40 | (injection eo40 with f1_ f2_ f3_; have f4_ := f1_.symm; have f5_ := f3_.symm; clear f1_ f2_ f3_; subst f4_; subst f5_))
              refine hK.out _ _ ⟨(blk_cell BK198.out 0).trans rfl, (blk_cell BK198.out 1).trans rfl, (blk_cell BK199.out 0).trans rfl, (blk_cell BK199.out 1).trans rfl⟩ (fun hHeld => ?_)
              clear hK K
              refine norm_ (a' := ?_) ?_ ?_
              rotate_left
              · show Act.put _ (some 6) _ = _
                simp only [Act.put, List.setIfInBounds_toArray, List.set_cons_zero, List.set_cons_succ, i64_w, i32_w]
                rfl
              refine one_ (i := 4) (N := some 32) #[true, true, true, true, true, false, false, false, true, false, false] rfl rfl (one_of HT_.out (by kernel_rfl)) (by decide) (fun K hK => ?_)
              refine goes_ Try.func63 (by kernel_rfl) rfl #[.agg #[.slice Ao37 t202.length co37, .slice Ao38 t205.length co38], .agg #[.slice Ao39 t208.length co39, .slice Ao40 t211.length co40]] (by rfl) rfl rfl (by (try simp only [List.map_toArray, List.map_cons, List.map_nil]); first | done | rfl | (simp only [List.length_drop, List.length_take]; rfl)) ?_
              with_reducible refine (spec_Reshape.calls k _ _ t202 _ _ t205 _ _ t208 _ _ t211 t214 t217 t220 _ ?side1 ?side2 ?side3 ?side4 ?side5 ?side6 ?side7 ?side8 A21.out).mono ?_
              (case side1 => repeat (first | exact (Kd.R_reads' HO204.out).2.2 | (with_reducible refine Kd.C_alloc ?_ _) | (with_reducible refine Kd.C_drewN ?_ _) | (with_reducible refine Kd.C_drew ?_)))
              (case side2 => exact (Kd.R_reads' HO204.out).2.1)
              (case side3 => repeat (first | exact (Kd.R_reads' HO207.out).2.2 | (with_reducible refine Kd.C_alloc ?_ _) | (with_reducible refine Kd.C_drewN ?_ _) | (with_reducible refine Kd.C_drew ?_)))
              (case side4 => exact (Kd.R_reads' HO207.out).2.1)
              (case side5 => repeat (first | exact (Kd.R_reads' HO210.out).2.2 | (with_reducible refine Kd.C_alloc ?_ _) | (with_reducible refine Kd.C_drewN ?_ _) | (with_reducible refine Kd.C_drew ?_)))
              (case side6 => exact (Kd.R_reads' HO210.out).2.1)
              (case side7 => repeat (first | exact (Kd.R_reads' HO213.out).2.2 | (with_reducible refine Kd.C_alloc ?_ _) | (with_reducible refine Kd.C_drewN ?_ _) | (with_reducible refine Kd.C_drew ?_)))
              (case side8 => exact (Kd.R_reads' HO213.out).2.1)
              rintro e w41 ⟨v215, v218, rfl, ho0, ho1, hb⟩
              refine ⟨_, rfl, ?_⟩
              have n0_ := Aside0.mk (Kd.R_mono (Kd.R_told (Kd.R_told (Kd.R_old (by (with_reducible repeat (first | apply Kd.R_alloc | apply Kd.R_drewN | apply Kd.R_drew)); exact HO204.out) hb) (Kd.R_base ho0)) (Kd.R_base ho1)) (fun _ h_ => h_.1))
              have n1_ := Aside0.mk (Kd.R_mono (Kd.R_told (Kd.R_told (Kd.R_old (by (with_reducible repeat (first | apply Kd.R_alloc | apply Kd.R_drewN | apply Kd.R_drew)); exact HO207.out) hb) (Kd.R_base ho0)) (Kd.R_base ho1)) (fun _ h_ => h_.1))
              have n2_ := Aside0.mk (Kd.R_mono (Kd.R_told (Kd.R_told (Kd.R_old (by (with_reducible repeat (first | apply Kd.R_alloc | apply Kd.R_drewN | apply Kd.R_drew)); exact HO210.out) hb) (Kd.R_base ho0)) (Kd.R_base ho1)) (fun _ h_ => h_.1))
              have n3_ := Aside0.mk (Kd.R_mono (Kd.R_told (Kd.R_told (Kd.R_old (by (with_reducible repeat (first | apply Kd.R_alloc | apply Kd.R_drewN | apply Kd.R_drew)); exact HO213.out) hb) (Kd.R_base ho0)) (Kd.R_base ho1)) (fun _ h_ => h_.1))
              have n4_ := Aside0.mk (Kd.R_lower (Kd.R_new' (Kd.R_new' (Kd.R_new' (Kd.R_new' ho0 (Kd.R_lt (by (with_reducible repeat (first | apply Kd.R_alloc | apply Kd.R_drewN | apply Kd.R_drew)); exact HO204.out))) (Kd.R_lt (by (with_reducible repeat (first | apply Kd.R_alloc | apply Kd.R_drewN | apply Kd.R_drew)); exact HO207.out))) (Kd.R_lt (by (with_reducible repeat (first | apply Kd.R_alloc | apply Kd.R_drewN | apply Kd.R_drew)); exact HO210.out))) (Kd.R_lt (by (with_reducible repeat (first | apply Kd.R_alloc | apply Kd.R_drewN | apply Kd.R_drew)); exact HO213.out))) (below_size (by repeat (first | (with_reducible first | exact HB.out | apply below_alloc | apply pw_below_drewN | apply below_drew1 | refine below_set ?_ GE198.out | refine below_set ?_ GE199.out | refine below_set ?_ GE221.out) | exact HB.out))))
              have n5_ := Aside0.mk (Kd.R_lower (Kd.R_new' (Kd.R_new' (Kd.R_new' (Kd.R_new' ho1 (Kd.R_lt (by (with_reducible repeat (first | apply Kd.R_alloc | apply Kd.R_drewN | apply Kd.R_drew)); exact HO204.out))) (Kd.R_lt (by (with_reducible repeat (first | apply Kd.R_alloc | apply Kd.R_drewN | apply Kd.R_drew)); exact HO207.out))) (Kd.R_lt (by (with_reducible repeat (first | apply Kd.R_alloc | apply Kd.R_drewN | apply Kd.R_drew)); exact HO210.out))) (Kd.R_lt (by (with_reducible repeat (first | apply Kd.R_alloc | apply Kd.R_drewN | apply Kd.R_drew)); exact HO213.out))) (below_size (by repeat (first | (with_reducible first | exact HB.out | apply below_alloc | apply pw_below_drewN | apply below_drew1 | refine below_set ?_ GE198.out | refine below_set ?_ GE199.out | refine below_set ?_ GE221.out) | exact HB.out))))
              have n6_ := Aside0.mk (blk_below (g := gb198) (o := .cells #[.slice A0_0 l0_0.length c0_0, .slice A0_1 l0_1.length c0_1] 37 (0, 0)) (by (with_reducible repeat (first | refine blk_drewN ?_ _ | refine blk_drew ?_ | refine blk_alloc ?_ _)); exact BK198.out) hb)
              have n7_ := Aside0.mk (blk_below (g := gb199) (o := .cells #[.slice A1_0 l1_0.length c1_0, .slice A1_1 l1_1.length c1_1] 37 (0, 0)) (by (with_reducible repeat (first | refine blk_drewN ?_ _ | refine blk_drew ?_ | refine blk_alloc ?_ _)); exact BK199.out) hb)
              have n8_ := Aside0.mk (blk_below (g := gb221) (o := .cells #[.slice none 0 0, .slice none 0 0] 26 (0, 0)) (by (with_reducible repeat (first | refine blk_drewN ?_ _ | refine blk_drew ?_ | refine blk_alloc ?_ _)); exact BK221.out) hb)
              have n9_ := Aside0.mk (below_step (by repeat (first | (with_reducible first | exact HB.out | apply below_alloc | apply pw_below_drewN | apply below_drew1 | refine below_set ?_ GE198.out | refine below_set ?_ GE199.out | refine below_set ?_ GE221.out) | exact HB.out)) hb)
              clear HO204
              clear HO207
              clear HO210
              clear HO213
              clear BK198
              clear BK199
              clear BK221
              clear HB
              have HO204 := n0_
              have HO207 := n1_
              have HO210 := n2_
              have HO213 := n3_
              have HO216 := n4_
              have HO219 := n5_
              have BK198 := n6_
              have BK199 := n7_
              have BK221 := n8_
              have HB := n9_
              clear n0_ n1_ n2_ n3_ n4_ n5_ n6_ n7_ n8_ n9_
              (try clear hb)
              (try clear hb2)
              (try clear hk)
              (try clear hi)
              (try clear ho0)
              (try clear ho1)
              refine hK.out _ _ ⟨(blk_cell BK198.out 0).trans rfl, (blk_cell BK198.out 1).trans rfl, (blk_cell BK199.out 0).trans rfl, (blk_cell BK199.out 1).trans rfl⟩ (fun hHeld => ?_)
              clear hK K
              refine norm_ (a' := ?_) ?_ ?_
              rotate_left
              · show Act.put _ (some 32) _ = _
                simp only [Act.put, List.setIfInBounds_toArray, List.set_cons_zero, List.set_cons_succ, i64_w, i32_w]
                rfl
              refine pure_ (i := 5) (N := some 27) (v := ?_) (a' := ?_) #[true, true, true, true, true, true, false, false, true, false, false] rfl rfl (any_of HT_.out (by kernel_rfl)) (fun _ _ _ h => h) (Or.inl ⟨by rfl, ?_⟩) ?_ ?_
              rotate_left
              · intro w'
                go_simp
                with_reducible rfl
              rotate_left
              · simp only [Act.put, List.setIfInBounds_toArray, List.set_cons_zero, List.set_cons_succ, i64_w, i32_w]
                rfl
              refine pure_ (i := 6) (N := some 33) (v := ?_) (a' := ?_) #[true, true, true, true, true, true, true, false, true, false, false] rfl rfl (any_of HT_.out (by kernel_rfl)) (fun _ _ _ h => h) (Or.inl ⟨by rfl, ?_⟩) ?_ ?_
              rotate_left
              · intro w'
                go_simp
                with_reducible rfl
              rotate_left
              · simp only [Act.put, List.setIfInBounds_toArray, List.set_cons_zero, List.set_cons_succ, i64_w, i32_w]
                rfl
              refine pure_ (i := 7) (N := some 34) (v := ?_) (a' := ?_) #[true, true, true, true, true, true, true, true, true, false, false] rfl rfl (any_of HT_.out (by kernel_rfl)) (fun _ _ _ h => h) (Or.inl ⟨by rfl, ?_⟩) ?_ ?_
              rotate_left
              · intro w'
                go_simp
                with_reducible rfl
              rotate_left
              · simp only [Act.put, List.setIfInBounds_toArray, List.set_cons_zero, List.set_cons_succ, i64_w, i32_w]
                rfl
              exact norm_ (by simp only [putAll, Act.put, List.setIfInBounds_toArray, List.set_cons_zero, List.set_cons_succ]) (hCont (.slice Ao37 t202.length co37, .slice Ao38 t205.length co38, .slice Ao39 t208.length co39, .slice Ao40 t211.length co40, v215, v218, gb221) _ ⟨hHeld, (by (with_reducible repeat (first | apply Kd.R_alloc | apply Kd.R_drewN | apply Kd.R_drew)); exact Kd.R_mono HO204.out (fun _ hk => ⟨hk.1.1.1.1, ⟨hk.1.1.1.2, ⟨hk.1.1.2, ⟨hk.1.2, hk.2⟩⟩⟩⟩)), (by (with_reducible repeat (first | apply Kd.R_alloc | apply Kd.R_drewN | apply Kd.R_drew)); exact Kd.R_mono HO207.out (fun _ hk => ⟨hk.1.1.1.1, ⟨hk.1.1.1.2, ⟨hk.1.1.2, ⟨hk.1.2, hk.2⟩⟩⟩⟩)), (by (with_reducible repeat (first | apply Kd.R_alloc | apply Kd.R_drewN | apply Kd.R_drew)); exact Kd.R_mono HO210.out (fun _ hk => ⟨hk.1.1.1.2, ⟨hk.1.1.2, ⟨hk.1.1.1.1, ⟨hk.1.2, hk.2⟩⟩⟩⟩)), (by (with_reducible repeat (first | apply Kd.R_alloc | apply Kd.R_drewN | apply Kd.R_drew)); exact Kd.R_mono HO213.out (fun _ hk => ⟨hk.1.1.1.2, ⟨hk.1.1.2, ⟨hk.1.1.1.1, ⟨hk.1.2, hk.2⟩⟩⟩⟩)), (by (with_reducible repeat (first | apply Kd.R_alloc | apply Kd.R_drewN | apply Kd.R_drew)); exact Kd.R_mono HO216.out (fun _ hk => ⟨hk.1.1.1.2, ⟨hk.1.1.2, ⟨hk.1.2, ⟨hk.2, hk.1.1.1.1⟩⟩⟩⟩)), (by (with_reducible repeat (first | apply Kd.R_alloc | apply Kd.R_drewN | apply Kd.R_drew)); exact Kd.R_mono HO219.out (fun _ hk => ⟨hk.1.1.1.2, ⟨hk.1.1.2, ⟨hk.1.2, ⟨hk.2, hk.1.1.1.1⟩⟩⟩⟩)), (by (with_reducible repeat (first | refine blk_drewN ?_ _ | refine blk_drew ?_ | refine blk_alloc ?_ _)); exact BK198.out), (by (with_reducible repeat (first | refine blk_drewN ?_ _ | refine blk_drew ?_ | refine blk_alloc ?_ _)); exact BK199.out), (by (with_reducible repeat (first | refine blk_drewN ?_ _ | refine blk_drew ?_ | refine blk_alloc ?_ _)); exact BK221.out), GW221.out, GE221.out, NB198_221.out, NB221_198.out, NB199_221.out, NB221_199.out, (by repeat (first | (with_reducible first | exact HB.out | apply below_alloc | apply pw_below_drewN | apply below_drew1 | refine below_set ?_ GE198.out | refine below_set ?_ GE199.out | refine below_set ?_ GE221.out) | exact HB.out))⟩)
          · skip
            refine box_step ?hg (N := 6) ?hd (cs := #[.slice none 0 0, .slice none 0 0]) (t := 26) ?hr ?_; (case hd => rfl); (case hg => rfl); (case hr => first | (go_simp; done) | (go_simp; rfl))
            intro gb221 hg w35 hbox hb
            have n0_ := Aside0.mk (Kd.R_below (by (with_reducible repeat (first | apply Kd.R_alloc | apply Kd.R_drewN | apply Kd.R_drew)); exact HO204.out) hb)
            have n1_ := Aside0.mk (Kd.R_below (by (with_reducible repeat (first | apply Kd.R_alloc | apply Kd.R_drewN | apply Kd.R_drew)); exact HO207.out) hb)
            have n2_ := Aside0.mk (blk_below (g := gb198) (o := .cells #[.slice A0_0 l0_0.length c0_0, .slice A0_1 l0_1.length c0_1] 37 (0, 0)) (by (with_reducible repeat (first | refine blk_drewN ?_ _ | refine blk_drew ?_ | refine blk_alloc ?_ _)); exact BK198.out) hb)
            have n3_ := Aside0.mk (blk_below (g := gb199) (o := .cells #[.slice A1_0 l1_0.length c1_0, .slice A1_1 l1_1.length c1_1] 37 (0, 0)) (by (with_reducible repeat (first | refine blk_drewN ?_ _ | refine blk_drew ?_ | refine blk_alloc ?_ _)); exact BK199.out) hb)
            have n4_ := Aside0.mk (below_step (by repeat (first | (with_reducible first | exact HB.out | apply below_alloc | apply pw_below_drewN | apply below_drew1 | refine below_set ?_ GE198.out | refine below_set ?_ GE199.out) | exact HB.out)) hb)
            have n5_ := Aside0.mk (hbox)
            have n6_ := Aside0.mk ((by rw [hg]; exact (below_size (by repeat (first | (with_reducible first | exact HB.out | apply below_alloc | apply pw_below_drewN | apply below_drew1 | refine below_set ?_ GE198.out | refine below_set ?_ GE199.out) | exact HB.out))) : w.heap.size ≤ gb221))
            have n7_ := Aside0.mk ((by rw [hg]; exact (below_size (by repeat (first | (with_reducible first | exact HB.out | apply below_alloc | apply pw_below_drewN | apply below_drew1 | refine below_set ?_ GE198.out | refine below_set ?_ GE199.out) | exact HB.out))) : w.heap.size ≤ gb221))
            have n8_ := Aside0.mk ((by rw [hg]; exact Nat.ne_of_lt (blk_lt (g := gb198) (o := .cells #[.slice A0_0 l0_0.length c0_0, .slice A0_1 l0_1.length c0_1] 37 (0, 0)) (by (with_reducible repeat (first | refine blk_drewN ?_ _ | refine blk_drew ?_ | refine blk_alloc ?_ _)); exact BK198.out)) : gb198 ≠ gb221))
            have n9_ := Aside0.mk ((by rw [hg]; exact Nat.ne_of_gt (blk_lt (g := gb198) (o := .cells #[.slice A0_0 l0_0.length c0_0, .slice A0_1 l0_1.length c0_1] 37 (0, 0)) (by (with_reducible repeat (first | refine blk_drewN ?_ _ | refine blk_drew ?_ | refine blk_alloc ?_ _)); exact BK198.out)) : gb221 ≠ gb198))
            have n10_ := Aside0.mk ((by rw [hg]; exact Nat.ne_of_lt (blk_lt (g := gb199) (o := .cells #[.slice A1_0 l1_0.length c1_0, .slice A1_1 l1_1.length c1_1] 37 (0, 0)) (by (with_reducible repeat (first | refine blk_drewN ?_ _ | refine blk_drew ?_ | refine blk_alloc ?_ _)); exact BK199.out)) : gb199 ≠ gb221))
            have n11_ := Aside0.mk ((by rw [hg]; exact Nat.ne_of_gt (blk_lt (g := gb199) (o := .cells #[.slice A1_0 l1_0.length c1_0, .slice A1_1 l1_1.length c1_1] 37 (0, 0)) (by (with_reducible repeat (first | refine blk_drewN ?_ _ | refine blk_drew ?_ | refine blk_alloc ?_ _)); exact BK199.out)) : gb221 ≠ gb199))
            clear HO204
            clear HO207
            clear BK198
            clear BK199
            clear HB
            have HO204 := n0_
            have HO207 := n1_
            have BK198 := n2_
            have BK199 := n3_
            have HB := n4_
            have BK221 := n5_
            have GW221 := n6_
            have GE221 := n7_
            have NB198_221 := n8_
            have NB221_198 := n9_
            have NB199_221 := n10_
            have NB221_199 := n11_
            clear n0_ n1_ n2_ n3_ n4_ n5_ n6_ n7_ n8_ n9_ n10_ n11_
            clear hb hbox hg
            refine hK.out _ _ ⟨(blk_cell BK198.out 0).trans rfl, (blk_cell BK198.out 1).trans rfl, (blk_cell BK199.out 0).trans rfl, (blk_cell BK199.out 1).trans rfl⟩ (fun hHeld => ?_)
            clear hK K
            refine norm_ (a' := ?_) ?_ ?_
            rotate_left
            · show Act.put _ (some 6) _ = _
              simp only [Act.put, List.setIfInBounds_toArray, List.set_cons_zero, List.set_cons_succ, i64_w, i32_w]
              rfl
            refine one_ (i := 3) (N := some 31) #[true, true, true, true, false, false, false, false, true, false, false] rfl rfl (one_of HT_.out (by kernel_rfl)) (by decide) (fun K hK => ?_)
            refine goes_ Try.func25 (by kernel_rfl) rfl #[.agg #[.slice A1_0 l1_0.length c1_0, .slice A1_1 l1_1.length c1_1]] (by rfl) rfl rfl (by (try simp only [List.map_toArray, List.map_cons, List.map_nil]); first | done | rfl | (simp only [List.length_drop, List.length_take]; rfl)) ?_
            with_reducible refine (laws_toArray.calls k _ _ l1_0 _ _ l1_1 t208 t211 _ ?side1 ?side2 ?side3 ?side4 A20.out).mono ?_
            (case side1 => repeat (first | exact (Kd.C_below HR1_0.out HB.out) | (with_reducible refine Kd.C_alloc ?_ _) | (with_reducible refine Kd.C_drewN ?_ _) | (with_reducible refine Kd.C_drew ?_)))
            (case side2 => exact HC1_0.out)
            (case side3 => repeat (first | exact (Kd.C_below HR1_1.out HB.out) | (with_reducible refine Kd.C_alloc ?_ _) | (with_reducible refine Kd.C_drewN ?_ _) | (with_reducible refine Kd.C_drew ?_)))
            (case side4 => exact HC1_1.out)
            rintro e w36 ⟨v209, v212, rfl, ho0, ho1, hb⟩
            refine ⟨_, rfl, ?_⟩
            have n0_ := Aside0.mk (Kd.R_mono (Kd.R_told (Kd.R_told (Kd.R_old (by (with_reducible repeat (first | apply Kd.R_alloc | apply Kd.R_drewN | apply Kd.R_drew)); exact HO204.out) hb) (Kd.R_base ho0)) (Kd.R_base ho1)) (fun _ h_ => h_.1))
            have n1_ := Aside0.mk (Kd.R_mono (Kd.R_told (Kd.R_told (Kd.R_old (by (with_reducible repeat (first | apply Kd.R_alloc | apply Kd.R_drewN | apply Kd.R_drew)); exact HO207.out) hb) (Kd.R_base ho0)) (Kd.R_base ho1)) (fun _ h_ => h_.1))
            have n2_ := Aside0.mk (Kd.R_lower (Kd.R_new' (Kd.R_new' ho0 (Kd.R_lt (by (with_reducible repeat (first | apply Kd.R_alloc | apply Kd.R_drewN | apply Kd.R_drew)); exact HO204.out))) (Kd.R_lt (by (with_reducible repeat (first | apply Kd.R_alloc | apply Kd.R_drewN | apply Kd.R_drew)); exact HO207.out))) (below_size (by repeat (first | (with_reducible first | exact HB.out | apply below_alloc | apply pw_below_drewN | apply below_drew1 | refine below_set ?_ GE198.out | refine below_set ?_ GE199.out | refine below_set ?_ GE221.out) | exact HB.out))))
            have n3_ := Aside0.mk (Kd.R_lower (Kd.R_new' (Kd.R_new' ho1 (Kd.R_lt (by (with_reducible repeat (first | apply Kd.R_alloc | apply Kd.R_drewN | apply Kd.R_drew)); exact HO204.out))) (Kd.R_lt (by (with_reducible repeat (first | apply Kd.R_alloc | apply Kd.R_drewN | apply Kd.R_drew)); exact HO207.out))) (below_size (by repeat (first | (with_reducible first | exact HB.out | apply below_alloc | apply pw_below_drewN | apply below_drew1 | refine below_set ?_ GE198.out | refine below_set ?_ GE199.out | refine below_set ?_ GE221.out) | exact HB.out))))
            have n4_ := Aside0.mk (blk_below (g := gb198) (o := .cells #[.slice A0_0 l0_0.length c0_0, .slice A0_1 l0_1.length c0_1] 37 (0, 0)) (by (with_reducible repeat (first | refine blk_drewN ?_ _ | refine blk_drew ?_ | refine blk_alloc ?_ _)); exact BK198.out) hb)
            have n5_ := Aside0.mk (blk_below (g := gb199) (o := .cells #[.slice A1_0 l1_0.length c1_0, .slice A1_1 l1_1.length c1_1] 37 (0, 0)) (by (with_reducible repeat (first | refine blk_drewN ?_ _ | refine blk_drew ?_ | refine blk_alloc ?_ _)); exact BK199.out) hb)
            have n6_ := Aside0.mk (blk_below (g := gb221) (o := .cells #[.slice none 0 0, .slice none 0 0] 26 (0, 0)) (by (with_reducible repeat (first | refine blk_drewN ?_ _ | refine blk_drew ?_ | refine blk_alloc ?_ _)); exact BK221.out) hb)
            have n7_ := Aside0.mk (below_step (by repeat (first | (with_reducible first | exact HB.out | apply below_alloc | apply pw_below_drewN | apply below_drew1 | refine below_set ?_ GE198.out | refine below_set ?_ GE199.out | refine below_set ?_ GE221.out) | exact HB.out)) hb)
            clear HO204
            clear HO207
            clear BK198
            clear BK199
            clear BK221
            clear HB
            have HO204 := n0_
            have HO207 := n1_
            have HO210 := n2_
            have HO213 := n3_
            have BK198 := n4_
            have BK199 := n5_
            have BK221 := n6_
            have HB := n7_
            clear n0_ n1_ n2_ n3_ n4_ n5_ n6_ n7_
            (try clear hb)
            (try clear hb2)
            (try clear hk)
            (try clear hi)
            (try clear ho0)
            (try clear ho1)
            obtain ⟨Ao37, co37, eo37⟩ := Kd.R_slice HO204.out
            (first | subst eo37 | (injection eo37 with f1_ f2_ f3_; have f4_ := f1_.symm; have f5_ := f3_.symm; clear f1_ f2_ f3_; subst f4_; subst f5_))
            obtain ⟨Ao38, co38, eo38⟩ := Kd.R_slice HO207.out
            (first | subst eo38 | (injection eo38 with f1_ f2_ f3_; have f4_ := f1_.symm; have f5_ := f3_.symm; clear f1_ f2_ f3_; subst f4_; subst f5_))
            obtain ⟨Ao39, co39, eo39⟩ := Kd.R_slice HO210.out
            (first | subst eo39 | (injection eo39 with f1_ f2_ f3_; have f4_ := f1_.symm; have f5_ := f3_.symm; clear f1_ f2_ f3_; subst f4_; subst f5_))
            obtain ⟨Ao40, co40, eo40⟩ := Kd.R_slice HO213.out
            (first | subst eo40 | (injection eo40 with f1_ f2_ f3_; have f4_ := f1_.symm; have f5_ := f3_.symm; clear f1_ f2_ f3_; subst f4_; subst f5_))
            refine hK.out _ _ ⟨(blk_cell BK198.out 0).trans rfl, (blk_cell BK198.out 1).trans rfl, (blk_cell BK199.out 0).trans rfl, (blk_cell BK199.out 1).trans rfl⟩ (fun hHeld => ?_)
            clear hK K
            refine norm_ (a' := ?_) ?_ ?_
            rotate_left
            · show Act.put _ (some 31) _ = _
              simp only [Act.put, List.setIfInBounds_toArray, List.set_cons_zero, List.set_cons_succ, i64_w, i32_w]
              rfl
            refine one_ (i := 4) (N := some 32) #[true, true, true, true, true, false, false, false, true, false, false] rfl rfl (one_of HT_.out (by kernel_rfl)) (by decide) (fun K hK => ?_)
            refine goes_ Try.func63 (by kernel_rfl) rfl #[.agg #[.slice Ao37 t202.length co37, .slice Ao38 t205.length co38], .agg #[.slice Ao39 t208.length co39, .slice Ao40 t211.length co40]] (by rfl) rfl rfl (by (try simp only [List.map_toArray, List.map_cons, List.map_nil]); first | done | rfl | (simp only [List.length_drop, List.length_take]; rfl)) ?_
            with_reducible refine (spec_Reshape.calls k _ _ t202 _ _ t205 _ _ t208 _ _ t211 t214 t217 t220 _ ?side1 ?side2 ?side3 ?side4 ?side5 ?side6 ?side7 ?side8 A21.out).mono ?_
            (case side1 => repeat (first | exact (Kd.R_reads' HO204.out).2.2 | (with_reducible refine Kd.C_alloc ?_ _) | (with_reducible refine Kd.C_drewN ?_ _) | (with_reducible refine Kd.C_drew ?_)))
            (case side2 => exact (Kd.R_reads' HO204.out).2.1)
            (case side3 => repeat (first | exact (Kd.R_reads' HO207.out).2.2 | (with_reducible refine Kd.C_alloc ?_ _) | (with_reducible refine Kd.C_drewN ?_ _) | (with_reducible refine Kd.C_drew ?_)))
            (case side4 => exact (Kd.R_reads' HO207.out).2.1)
            (case side5 => repeat (first | exact (Kd.R_reads' HO210.out).2.2 | (with_reducible refine Kd.C_alloc ?_ _) | (with_reducible refine Kd.C_drewN ?_ _) | (with_reducible refine Kd.C_drew ?_)))
            (case side6 => exact (Kd.R_reads' HO210.out).2.1)
            (case side7 => repeat (first | exact (Kd.R_reads' HO213.out).2.2 | (with_reducible refine Kd.C_alloc ?_ _) | (with_reducible refine Kd.C_drewN ?_ _) | (with_reducible refine Kd.C_drew ?_)))
            (case side8 => exact (Kd.R_reads' HO213.out).2.1)
            rintro e w41 ⟨v215, v218, rfl, ho0, ho1, hb⟩
            refine ⟨_, rfl, ?_⟩
            have n0_ := Aside0.mk (Kd.R_mono (Kd.R_told (Kd.R_told (Kd.R_old (by (with_reducible repeat (first | apply Kd.R_alloc | apply Kd.R_drewN | apply Kd.R_drew)); exact HO204.out) hb) (Kd.R_base ho0)) (Kd.R_base ho1)) (fun _ h_ => h_.1))
            have n1_ := Aside0.mk (Kd.R_mono (Kd.R_told (Kd.R_told (Kd.R_old (by (with_reducible repeat (first | apply Kd.R_alloc | apply Kd.R_drewN | apply Kd.R_drew)); exact HO207.out) hb) (Kd.R_base ho0)) (Kd.R_base ho1)) (fun _ h_ => h_.1))
            have n2_ := Aside0.mk (Kd.R_mono (Kd.R_told (Kd.R_told (Kd.R_old (by (with_reducible repeat (first | apply Kd.R_alloc | apply Kd.R_drewN | apply Kd.R_drew)); exact HO210.out) hb) (Kd.R_base ho0)) (Kd.R_base ho1)) (fun _ h_ => h_.1))
            have n3_ := Aside0.mk (Kd.R_mono (Kd.R_told (Kd.R_told (Kd.R_old (by (with_reducible repeat (first | apply Kd.R_alloc | apply Kd.R_drewN | apply Kd.R_drew)); exact HO213.out) hb) (Kd.R_base ho0)) (Kd.R_base ho1)) (fun _ h_ => h_.1))
            have n4_ := Aside0.mk (Kd.R_lower (Kd.R_new' (Kd.R_new' (Kd.R_new' (Kd.R_new' ho0 (Kd.R_lt (by (with_reducible repeat (first | apply Kd.R_alloc | apply Kd.R_drewN | apply Kd.R_drew)); exact HO204.out))) (Kd.R_lt (by (with_reducible repeat (first | apply Kd.R_alloc | apply Kd.R_drewN | apply Kd.R_drew)); exact HO207.out))) (Kd.R_lt (by (with_reducible repeat (first | apply Kd.R_alloc | apply Kd.R_drewN | apply Kd.R_drew)); exact HO210.out))) (Kd.R_lt (by (with_reducible repeat (first | apply Kd.R_alloc | apply Kd.R_drewN | apply Kd.R_drew)); exact HO213.out))) (below_size (by repeat (first | (with_reducible first | exact HB.out | apply below_alloc | apply pw_below_drewN | apply below_drew1 | refine below_set ?_ GE198.out | refine below_set ?_ GE199.out | refine below_set ?_ GE221.out) | exact HB.out))))
            have n5_ := Aside0.mk (Kd.R_lower (Kd.R_new' (Kd.R_new' (Kd.R_new' (Kd.R_new' ho1 (Kd.R_lt (by (with_reducible repeat (first | apply Kd.R_alloc | apply Kd.R_drewN | apply Kd.R_drew)); exact HO204.out))) (Kd.R_lt (by (with_reducible repeat (first | apply Kd.R_alloc | apply Kd.R_drewN | apply Kd.R_drew)); exact HO207.out))) (Kd.R_lt (by (with_reducible repeat (first | apply Kd.R_alloc | apply Kd.R_drewN | apply Kd.R_drew)); exact HO210.out))) (Kd.R_lt (by (with_reducible repeat (first | apply Kd.R_alloc | apply Kd.R_drewN | apply Kd.R_drew)); exact HO213.out))) (below_size (by repeat (first | (with_reducible first | exact HB.out | apply below_alloc | apply pw_below_drewN | apply below_drew1 | refine below_set ?_ GE198.out | refine below_set ?_ GE199.out | refine below_set ?_ GE221.out) | exact HB.out))))
            have n6_ := Aside0.mk (blk_below (g := gb198) (o := .cells #[.slice A0_0 l0_0.length c0_0, .slice A0_1 l0_1.length c0_1] 37 (0, 0)) (by (with_reducible repeat (first | refine blk_drewN ?_ _ | refine blk_drew ?_ | refine blk_alloc ?_ _)); exact BK198.out) hb)
            have n7_ := Aside0.mk (blk_below (g := gb199) (o := .cells #[.slice A1_0 l1_0.length c1_0, .slice A1_1 l1_1.length c1_1] 37 (0, 0)) (by (with_reducible repeat (first | refine blk_drewN ?_ _ | refine blk_drew ?_ | refine blk_alloc ?_ _)); exact BK199.out) hb)
            have n8_ := Aside0.mk (blk_below (g := gb221) (o := .cells #[.slice none 0 0, .slice none 0 0] 26 (0, 0)) (by (with_reducible repeat (first | refine blk_drewN ?_ _ | refine blk_drew ?_ | refine blk_alloc ?_ _)); exact BK221.out) hb)
            have n9_ := Aside0.mk (below_step (by repeat (first | (with_reducible first | exact HB.out | apply below_alloc | apply pw_below_drewN | apply below_drew1 | refine below_set ?_ GE198.out | refine below_set ?_ GE199.out | refine below_set ?_ GE221.out) | exact HB.out)) hb)
            clear HO204
            clear HO207
            clear HO210
            clear HO213
            clear BK198
            clear BK199
            clear BK221
            clear HB
            have HO204 := n0_
            have HO207 := n1_
            have HO210 := n2_
            have HO213 := n3_
            have HO216 := n4_
            have HO219 := n5_
            have BK198 := n6_
            have BK199 := n7_
            have BK221 := n8_
            have HB := n9_
            clear n0_ n1_ n2_ n3_ n4_ n5_ n6_ n7_ n8_ n9_
            (try clear hb)
            (try clear hb2)
            (try clear hk)
            (try clear hi)
            (try clear ho0)
            (try clear ho1)
            refine hK.out _ _ ⟨(blk_cell BK198.out 0).trans rfl, (blk_cell BK198.out 1).trans rfl, (blk_cell BK199.out 0).trans rfl, (blk_cell BK199.out 1).trans rfl⟩ (fun hHeld => ?_)
            clear hK K
            refine norm_ (a' := ?_) ?_ ?_
            rotate_left
            · show Act.put _ (some 32) _ = _
              simp only [Act.put, List.setIfInBounds_toArray, List.set_cons_zero, List.set_cons_succ, i64_w, i32_w]
              rfl
            refine pure_ (i := 5) (N := some 27) (v := ?_) (a' := ?_) #[true, true, true, true, true, true, false, false, true, false, false] rfl rfl (any_of HT_.out (by kernel_rfl)) (fun _ _ _ h => h) (Or.inl ⟨by rfl, ?_⟩) ?_ ?_
            rotate_left
            · intro w'
              go_simp
              with_reducible rfl
            rotate_left
            · simp only [Act.put, List.setIfInBounds_toArray, List.set_cons_zero, List.set_cons_succ, i64_w, i32_w]
              rfl
            refine pure_ (i := 6) (N := some 33) (v := ?_) (a' := ?_) #[true, true, true, true, true, true, true, false, true, false, false] rfl rfl (any_of HT_.out (by kernel_rfl)) (fun _ _ _ h => h) (Or.inl ⟨by rfl, ?_⟩) ?_ ?_
            rotate_left
            · intro w'
              go_simp
              with_reducible rfl
            rotate_left
            · simp only [Act.put, List.setIfInBounds_toArray, List.set_cons_zero, List.set_cons_succ, i64_w, i32_w]
              rfl
            refine pure_ (i := 7) (N := some 34) (v := ?_) (a' := ?_) #[true, true, true, true, true, true, true, true, true, false, false] rfl rfl (any_of HT_.out (by kernel_rfl)) (fun _ _ _ h => h) (Or.inl ⟨by rfl, ?_⟩) ?_ ?_
            rotate_left
            · intro w'
              go_simp
              with_reducible rfl
            rotate_left
            · simp only [Act.put, List.setIfInBounds_toArray, List.set_cons_zero, List.set_cons_succ, i64_w, i32_w]
              rfl
            exact norm_ (by simp only [putAll, Act.put, List.setIfInBounds_toArray, List.set_cons_zero, List.set_cons_succ]) (hCont (.slice Ao37 t202.length co37, .slice Ao38 t205.length co38, .slice Ao39 t208.length co39, .slice Ao40 t211.length co40, v215, v218, gb221) _ ⟨hHeld, (by (with_reducible repeat (first | apply Kd.R_alloc | apply Kd.R_drewN | apply Kd.R_drew)); exact Kd.R_mono HO204.out (fun _ hk => ⟨hk.1.1.1.1, ⟨hk.1.1.1.2, ⟨hk.1.1.2, ⟨hk.1.2, hk.2⟩⟩⟩⟩)), (by (with_reducible repeat (first | apply Kd.R_alloc | apply Kd.R_drewN | apply Kd.R_drew)); exact Kd.R_mono HO207.out (fun _ hk => ⟨hk.1.1.1.1, ⟨hk.1.1.1.2, ⟨hk.1.1.2, ⟨hk.1.2, hk.2⟩⟩⟩⟩)), (by (with_reducible repeat (first | apply Kd.R_alloc | apply Kd.R_drewN | apply Kd.R_drew)); exact Kd.R_mono HO210.out (fun _ hk => ⟨hk.1.1.1.2, ⟨hk.1.1.2, ⟨hk.1.1.1.1, ⟨hk.1.2, hk.2⟩⟩⟩⟩)), (by (with_reducible repeat (first | apply Kd.R_alloc | apply Kd.R_drewN | apply Kd.R_drew)); exact Kd.R_mono HO213.out (fun _ hk => ⟨hk.1.1.1.2, ⟨hk.1.1.2, ⟨hk.1.1.1.1, ⟨hk.1.2, hk.2⟩⟩⟩⟩)), (by (with_reducible repeat (first | apply Kd.R_alloc | apply Kd.R_drewN | apply Kd.R_drew)); exact Kd.R_mono HO216.out (fun _ hk => ⟨hk.1.1.1.2, ⟨hk.1.1.2, ⟨hk.1.2, ⟨hk.2, hk.1.1.1.1⟩⟩⟩⟩)), (by (with_reducible repeat (first | apply Kd.R_alloc | apply Kd.R_drewN | apply Kd.R_drew)); exact Kd.R_mono HO219.out (fun _ hk => ⟨hk.1.1.1.2, ⟨hk.1.1.2, ⟨hk.1.2, ⟨hk.2, hk.1.1.1.1⟩⟩⟩⟩)), (by (with_reducible repeat (first | refine blk_drewN ?_ _ | refine blk_drew ?_ | refine blk_alloc ?_ _)); exact BK198.out), (by (with_reducible repeat (first | refine blk_drewN ?_ _ | refine blk_drew ?_ | refine blk_alloc ?_ _)); exact BK199.out), (by (with_reducible repeat (first | refine blk_drewN ?_ _ | refine blk_drew ?_ | refine blk_alloc ?_ _)); exact BK221.out), GW221.out, GE221.out, NB198_221.out, NB221_198.out, NB199_221.out, NB221_199.out, (by repeat (first | (with_reducible first | exact HB.out | apply below_alloc | apply pw_below_drewN | apply below_drew1 | refine below_set ?_ GE198.out | refine below_set ?_ GE199.out | refine below_set ?_ GE221.out) | exact HB.out))⟩)
        · skip
          refine box_step ?hg (N := 6) ?hd (cs := #[.slice none 0 0, .slice none 0 0]) (t := 26) ?hr ?_; (case hd => rfl); (case hg => rfl); (case hr => first | (go_simp; done) | (go_simp; rfl))
          intro gb221 hg w34 hbox hb
          have n0_ := Aside0.mk (blk_below (g := gb198) (o := .cells #[.slice A0_0 l0_0.length c0_0, .slice A0_1 l0_1.length c0_1] 37 (0, 0)) (by (with_reducible repeat (first | refine blk_drewN ?_ _ | refine blk_drew ?_ | refine blk_alloc ?_ _)); exact BK198.out) hb)
          have n1_ := Aside0.mk (blk_below (g := gb199) (o := .cells #[.slice A1_0 l1_0.length c1_0, .slice A1_1 l1_1.length c1_1] 37 (0, 0)) (by (with_reducible repeat (first | refine blk_drewN ?_ _ | refine blk_drew ?_ | refine blk_alloc ?_ _)); exact BK199.out) hb)
          have n2_ := Aside0.mk (below_step (by repeat (first | (with_reducible first | exact HB.out | apply below_alloc | apply pw_below_drewN | apply below_drew1 | refine below_set ?_ GE198.out | refine below_set ?_ GE199.out) | exact HB.out)) hb)
          have n3_ := Aside0.mk (hbox)
          have n4_ := Aside0.mk ((by rw [hg]; exact (below_size (by repeat (first | (with_reducible first | exact HB.out | apply below_alloc | apply pw_below_drewN | apply below_drew1 | refine below_set ?_ GE198.out | refine below_set ?_ GE199.out) | exact HB.out))) : w.heap.size ≤ gb221))
          have n5_ := Aside0.mk ((by rw [hg]; exact (below_size (by repeat (first | (with_reducible first | exact HB.out | apply below_alloc | apply pw_below_drewN | apply below_drew1 | refine below_set ?_ GE198.out | refine below_set ?_ GE199.out) | exact HB.out))) : w.heap.size ≤ gb221))
          have n6_ := Aside0.mk ((by rw [hg]; exact Nat.ne_of_lt (blk_lt (g := gb198) (o := .cells #[.slice A0_0 l0_0.length c0_0, .slice A0_1 l0_1.length c0_1] 37 (0, 0)) (by (with_reducible repeat (first | refine blk_drewN ?_ _ | refine blk_drew ?_ | refine blk_alloc ?_ _)); exact BK198.out)) : gb198 ≠ gb221))
          have n7_ := Aside0.mk ((by rw [hg]; exact Nat.ne_of_gt (blk_lt (g := gb198) (o := .cells #[.slice A0_0 l0_0.length c0_0, .slice A0_1 l0_1.length c0_1] 37 (0, 0)) (by (with_reducible repeat (first | refine blk_drewN ?_ _ | refine blk_drew ?_ | refine blk_alloc ?_ _)); exact BK198.out)) : gb221 ≠ gb198))
          have n8_ := Aside0.mk ((by rw [hg]; exact Nat.ne_of_lt (blk_lt (g := gb199) (o := .cells #[.slice A1_0 l1_0.length c1_0, .slice A1_1 l1_1.length c1_1] 37 (0, 0)) (by (with_reducible repeat (first | refine blk_drewN ?_ _ | refine blk_drew ?_ | refine blk_alloc ?_ _)); exact BK199.out)) : gb199 ≠ gb221))
          have n9_ := Aside0.mk ((by rw [hg]; exact Nat.ne_of_gt (blk_lt (g := gb199) (o := .cells #[.slice A1_0 l1_0.length c1_0, .slice A1_1 l1_1.length c1_1] 37 (0, 0)) (by (with_reducible repeat (first | refine blk_drewN ?_ _ | refine blk_drew ?_ | refine blk_alloc ?_ _)); exact BK199.out)) : gb221 ≠ gb199))
          clear BK198
          clear BK199
          clear HB
          have BK198 := n0_
          have BK199 := n1_
          have HB := n2_
          have BK221 := n3_
          have GW221 := n4_
          have GE221 := n5_
          have NB198_221 := n6_
          have NB221_198 := n7_
          have NB199_221 := n8_
          have NB221_199 := n9_
          clear n0_ n1_ n2_ n3_ n4_ n5_ n6_ n7_ n8_ n9_
          clear hb hbox hg
          refine hK.out _ _ ⟨(blk_cell BK198.out 0).trans rfl, (blk_cell BK198.out 1).trans rfl, (blk_cell BK199.out 0).trans rfl, (blk_cell BK199.out 1).trans rfl⟩ (fun hHeld => ?_)
          clear hK K
          refine norm_ (a' := ?_) ?_ ?_
          rotate_left
          · show Act.put _ (some 6) _ = _
            simp only [Act.put, List.setIfInBounds_toArray, List.set_cons_zero, List.set_cons_succ, i64_w, i32_w]
            rfl
          refine one_ (i := 1) (N := some 29) #[true, true, true, false, false, false, false, false, true, false, false] rfl rfl (one_of HT_.out (by kernel_rfl)) (by decide) (fun K hK => ?_)
          refine goes_ Try.func25 (by kernel_rfl) rfl #[.agg #[.slice A0_0 l0_0.length c0_0, .slice A0_1 l0_1.length c0_1]] (by rfl) rfl rfl (by (try simp only [List.map_toArray, List.map_cons, List.map_nil]); first | done | rfl | (simp only [List.length_drop, List.length_take]; rfl)) ?_
          with_reducible refine (laws_toArray.calls k _ _ l0_0 _ _ l0_1 t202 t205 _ ?side1 ?side2 ?side3 ?side4 A19.out).mono ?_
          (case side1 => repeat (first | exact (Kd.C_below HR0_0.out HB.out) | (with_reducible refine Kd.C_alloc ?_ _) | (with_reducible refine Kd.C_drewN ?_ _) | (with_reducible refine Kd.C_drew ?_)))
          (case side2 => exact HC0_0.out)
          (case side3 => repeat (first | exact (Kd.C_below HR0_1.out HB.out) | (with_reducible refine Kd.C_alloc ?_ _) | (with_reducible refine Kd.C_drewN ?_ _) | (with_reducible refine Kd.C_drew ?_)))
          (case side4 => exact HC0_1.out)
          rintro e w35 ⟨v203, v206, rfl, ho0, ho1, hb⟩
          refine ⟨_, rfl, ?_⟩
          have n0_ := Aside0.mk (Kd.R_lower ho0 (below_size (by repeat (first | (with_reducible first | exact HB.out | apply below_alloc | apply pw_below_drewN | apply below_drew1 | refine below_set ?_ GE198.out | refine below_set ?_ GE199.out | refine below_set ?_ GE221.out) | exact HB.out))))
          have n1_ := Aside0.mk (Kd.R_lower ho1 (below_size (by repeat (first | (with_reducible first | exact HB.out | apply below_alloc | apply pw_below_drewN | apply below_drew1 | refine below_set ?_ GE198.out | refine below_set ?_ GE199.out | refine below_set ?_ GE221.out) | exact HB.out))))
          have n2_ := Aside0.mk (blk_below (g := gb198) (o := .cells #[.slice A0_0 l0_0.length c0_0, .slice A0_1 l0_1.length c0_1] 37 (0, 0)) (by (with_reducible repeat (first | refine blk_drewN ?_ _ | refine blk_drew ?_ | refine blk_alloc ?_ _)); exact BK198.out) hb)
          have n3_ := Aside0.mk (blk_below (g := gb199) (o := .cells #[.slice A1_0 l1_0.length c1_0, .slice A1_1 l1_1.length c1_1] 37 (0, 0)) (by (with_reducible repeat (first | refine blk_drewN ?_ _ | refine blk_drew ?_ | refine blk_alloc ?_ _)); exact BK199.out) hb)
          have n4_ := Aside0.mk (blk_below (g := gb221) (o := .cells #[.slice none 0 0, .slice none 0 0] 26 (0, 0)) (by (with_reducible repeat (first | refine blk_drewN ?_ _ | refine blk_drew ?_ | refine blk_alloc ?_ _)); exact BK221.out) hb)
          have n5_ := Aside0.mk (below_step (by repeat (first | (with_reducible first | exact HB.out | apply below_alloc | apply pw_below_drewN | apply below_drew1 | refine below_set ?_ GE198.out | refine below_set ?_ GE199.out | refine below_set ?_ GE221.out) | exact HB.out)) hb)
          clear BK198
          clear BK199
          clear BK221
          clear HB
          have HO204 := n0_
          have HO207 := n1_
          have BK198 := n2_
          have BK199 := n3_
          have BK221 := n4_
          have HB := n5_
          clear n0_ n1_ n2_ n3_ n4_ n5_
          (try clear hb)
          (try clear hb2)
          (try clear hk)
          (try clear hi)
          (try clear ho0)
          (try clear ho1)
          refine hK.out _ _ ⟨(blk_cell BK198.out 0).trans rfl, (blk_cell BK198.out 1).trans rfl, (blk_cell BK199.out 0).trans rfl, (blk_cell BK199.out 1).trans rfl⟩ (fun hHeld => ?_)
          clear hK K
          refine norm_ (a' := ?_) ?_ ?_
          rotate_left
          · show Act.put _ (some 29) _ = _
            simp only [Act.put, List.setIfInBounds_toArray, List.set_cons_zero, List.set_cons_succ, i64_w, i32_w]
            rfl
          refine one_ (i := 3) (N := some 31) #[true, true, true, true, false, false, false, false, true, false, false] rfl rfl (one_of HT_.out (by kernel_rfl)) (by decide) (fun K hK => ?_)
          refine goes_ Try.func25 (by kernel_rfl) rfl #[.agg #[.slice A1_0 l1_0.length c1_0, .slice A1_1 l1_1.length c1_1]] (by rfl) rfl rfl (by (try simp only [List.map_toArray, List.map_cons, List.map_nil]); first | done | rfl | (simp only [List.length_drop, List.length_take]; rfl)) ?_
          with_reducible refine (laws_toArray.calls k _ _ l1_0 _ _ l1_1 t208 t211 _ ?side1 ?side2 ?side3 ?side4 A20.out).mono ?_
          (case side1 => repeat (first | exact (Kd.C_below HR1_0.out HB.out) | (with_reducible refine Kd.C_alloc ?_ _) | (with_reducible refine Kd.C_drewN ?_ _) | (with_reducible refine Kd.C_drew ?_)))
          (case side2 => exact HC1_0.out)
          (case side3 => repeat (first | exact (Kd.C_below HR1_1.out HB.out) | (with_reducible refine Kd.C_alloc ?_ _) | (with_reducible refine Kd.C_drewN ?_ _) | (with_reducible refine Kd.C_drew ?_)))
          (case side4 => exact HC1_1.out)
          rintro e w36 ⟨v209, v212, rfl, ho0, ho1, hb⟩
          refine ⟨_, rfl, ?_⟩
          have n0_ := Aside0.mk (Kd.R_mono (Kd.R_told (Kd.R_told (Kd.R_old (by (with_reducible repeat (first | apply Kd.R_alloc | apply Kd.R_drewN | apply Kd.R_drew)); exact HO204.out) hb) (Kd.R_base ho0)) (Kd.R_base ho1)) (fun _ h_ => h_.1))
          have n1_ := Aside0.mk (Kd.R_mono (Kd.R_told (Kd.R_told (Kd.R_old (by (with_reducible repeat (first | apply Kd.R_alloc | apply Kd.R_drewN | apply Kd.R_drew)); exact HO207.out) hb) (Kd.R_base ho0)) (Kd.R_base ho1)) (fun _ h_ => h_.1))
          have n2_ := Aside0.mk (Kd.R_lower (Kd.R_new' (Kd.R_new' ho0 (Kd.R_lt (by (with_reducible repeat (first | apply Kd.R_alloc | apply Kd.R_drewN | apply Kd.R_drew)); exact HO204.out))) (Kd.R_lt (by (with_reducible repeat (first | apply Kd.R_alloc | apply Kd.R_drewN | apply Kd.R_drew)); exact HO207.out))) (below_size (by repeat (first | (with_reducible first | exact HB.out | apply below_alloc | apply pw_below_drewN | apply below_drew1 | refine below_set ?_ GE198.out | refine below_set ?_ GE199.out | refine below_set ?_ GE221.out) | exact HB.out))))
          have n3_ := Aside0.mk (Kd.R_lower (Kd.R_new' (Kd.R_new' ho1 (Kd.R_lt (by (with_reducible repeat (first | apply Kd.R_alloc | apply Kd.R_drewN | apply Kd.R_drew)); exact HO204.out))) (Kd.R_lt (by (with_reducible repeat (first | apply Kd.R_alloc | apply Kd.R_drewN | apply Kd.R_drew)); exact HO207.out))) (below_size (by repeat (first | (with_reducible first | exact HB.out | apply below_alloc | apply pw_below_drewN | apply below_drew1 | refine below_set ?_ GE198.out | refine below_set ?_ GE199.out | refine below_set ?_ GE221.out) | exact HB.out))))
          have n4_ := Aside0.mk (blk_below (g := gb198) (o := .cells #[.slice A0_0 l0_0.length c0_0, .slice A0_1 l0_1.length c0_1] 37 (0, 0)) (by (with_reducible repeat (first | refine blk_drewN ?_ _ | refine blk_drew ?_ | refine blk_alloc ?_ _)); exact BK198.out) hb)
          have n5_ := Aside0.mk (blk_below (g := gb199) (o := .cells #[.slice A1_0 l1_0.length c1_0, .slice A1_1 l1_1.length c1_1] 37 (0, 0)) (by (with_reducible repeat (first | refine blk_drewN ?_ _ | refine blk_drew ?_ | refine blk_alloc ?_ _)); exact BK199.out) hb)
          have n6_ := Aside0.mk (blk_below (g := gb221) (o := .cells #[.slice none 0 0, .slice none 0 0] 26 (0, 0)) (by (with_reducible repeat (first | refine blk_drewN ?_ _ | refine blk_drew ?_ | refine blk_alloc ?_ _)); exact BK221.out) hb)
          have n7_ := Aside0.mk (below_step (by repeat (first | (with_reducible first | exact HB.out | apply below_alloc | apply pw_below_drewN | apply below_drew1 | refine below_set ?_ GE198.out | refine below_set ?_ GE199.out | refine below_set ?_ GE221.out) | exact HB.out)) hb)
          clear HO204
          clear HO207
          clear BK198
          clear BK199
          clear BK221
          clear HB
          have HO204 := n0_
          have HO207 := n1_
          have HO210 := n2_
          have HO213 := n3_
          have BK198 := n4_
          have BK199 := n5_
          have BK221 := n6_
          have HB := n7_
          clear n0_ n1_ n2_ n3_ n4_ n5_ n6_ n7_
          (try clear hb)
          (try clear hb2)
          (try clear hk)
          (try clear hi)
          (try clear ho0)
          (try clear ho1)
          obtain ⟨Ao37, co37, eo37⟩ := Kd.R_slice HO204.out
          (first | subst eo37 | (injection eo37 with f1_ f2_ f3_; have f4_ := f1_.symm; have f5_ := f3_.symm; clear f1_ f2_ f3_; subst f4_; subst f5_))
          obtain ⟨Ao38, co38, eo38⟩ := Kd.R_slice HO207.out
          (first | subst eo38 | (injection eo38 with f1_ f2_ f3_; have f4_ := f1_.symm; have f5_ := f3_.symm; clear f1_ f2_ f3_; subst f4_; subst f5_))
          obtain ⟨Ao39, co39, eo39⟩ := Kd.R_slice HO210.out
          (first | subst eo39 | (injection eo39 with f1_ f2_ f3_; have f4_ := f1_.symm; have f5_ := f3_.symm; clear f1_ f2_ f3_; subst f4_; subst f5_))
          obtain ⟨Ao40, co40, eo40⟩ := Kd.R_slice HO213.out
          (first | subst eo40 | (injection eo40 with f1_ f2_ f3_; have f4_ := f1_.symm; have f5_ := f3_.symm; clear f1_ f2_ f3_; subst f4_; subst f5_))
          refine hK.out _ _ ⟨(blk_cell BK198.out 0).trans rfl, (blk_cell BK198.out 1).trans rfl, (blk_cell BK199.out 0).trans rfl, (blk_cell BK199.out 1).trans rfl⟩ (fun hHeld => ?_)
          clear hK K
          refine norm_ (a' := ?_) ?_ ?_
          rotate_left
          · show Act.put _ (some 31) _ = _
            simp only [Act.put, List.setIfInBounds_toArray, List.set_cons_zero, List.set_cons_succ, i64_w, i32_w]
            rfl
          refine one_ (i := 4) (N := some 32) #[true, true, true, true, true, false, false, false, true, false, false] rfl rfl (one_of HT_.out (by kernel_rfl)) (by decide) (fun K hK => ?_)
          refine goes_ Try.func63 (by kernel_rfl) rfl #[.agg #[.slice Ao37 t202.length co37, .slice Ao38 t205.length co38], .agg #[.slice Ao39 t208.length co39, .slice Ao40 t211.length co40]] (by rfl) rfl rfl (by (try simp only [List.map_toArray, List.map_cons, List.map_nil]); first | done | rfl | (simp only [List.length_drop, List.length_take]; rfl)) ?_
          with_reducible refine (spec_Reshape.calls k _ _ t202 _ _ t205 _ _ t208 _ _ t211 t214 t217 t220 _ ?side1 ?side2 ?side3 ?side4 ?side5 ?side6 ?side7 ?side8 A21.out).mono ?_
          (case side1 => repeat (first | exact (Kd.R_reads' HO204.out).2.2 | (with_reducible refine Kd.C_alloc ?_ _) | (with_reducible refine Kd.C_drewN ?_ _) | (with_reducible refine Kd.C_drew ?_)))
          (case side2 => exact (Kd.R_reads' HO204.out).2.1)
          (case side3 => repeat (first | exact (Kd.R_reads' HO207.out).2.2 | (with_reducible refine Kd.C_alloc ?_ _) | (with_reducible refine Kd.C_drewN ?_ _) | (with_reducible refine Kd.C_drew ?_)))
          (case side4 => exact (Kd.R_reads' HO207.out).2.1)
          (case side5 => repeat (first | exact (Kd.R_reads' HO210.out).2.2 | (with_reducible refine Kd.C_alloc ?_ _) | (with_reducible refine Kd.C_drewN ?_ _) | (with_reducible refine Kd.C_drew ?_)))
          (case side6 => exact (Kd.R_reads' HO210.out).2.1)
          (case side7 => repeat (first | exact (Kd.R_reads' HO213.out).2.2 | (with_reducible refine Kd.C_alloc ?_ _) | (with_reducible refine Kd.C_drewN ?_ _) | (with_reducible refine Kd.C_drew ?_)))
          (case side8 => exact (Kd.R_reads' HO213.out).2.1)
          rintro e w41 ⟨v215, v218, rfl, ho0, ho1, hb⟩
          refine ⟨_, rfl, ?_⟩
          have n0_ := Aside0.mk (Kd.R_mono (Kd.R_told (Kd.R_told (Kd.R_old (by (with_reducible repeat (first | apply Kd.R_alloc | apply Kd.R_drewN | apply Kd.R_drew)); exact HO204.out) hb) (Kd.R_base ho0)) (Kd.R_base ho1)) (fun _ h_ => h_.1))
          have n1_ := Aside0.mk (Kd.R_mono (Kd.R_told (Kd.R_told (Kd.R_old (by (with_reducible repeat (first | apply Kd.R_alloc | apply Kd.R_drewN | apply Kd.R_drew)); exact HO207.out) hb) (Kd.R_base ho0)) (Kd.R_base ho1)) (fun _ h_ => h_.1))
          have n2_ := Aside0.mk (Kd.R_mono (Kd.R_told (Kd.R_told (Kd.R_old (by (with_reducible repeat (first | apply Kd.R_alloc | apply Kd.R_drewN | apply Kd.R_drew)); exact HO210.out) hb) (Kd.R_base ho0)) (Kd.R_base ho1)) (fun _ h_ => h_.1))
          have n3_ := Aside0.mk (Kd.R_mono (Kd.R_told (Kd.R_told (Kd.R_old (by (with_reducible repeat (first | apply Kd.R_alloc | apply Kd.R_drewN | apply Kd.R_drew)); exact HO213.out) hb) (Kd.R_base ho0)) (Kd.R_base ho1)) (fun _ h_ => h_.1))
          have n4_ := Aside0.mk (Kd.R_lower (Kd.R_new' (Kd.R_new' (Kd.R_new' (Kd.R_new' ho0 (Kd.R_lt (by (with_reducible repeat (first | apply Kd.R_alloc | apply Kd.R_drewN | apply Kd.R_drew)); exact HO204.out))) (Kd.R_lt (by (with_reducible repeat (first | apply Kd.R_alloc | apply Kd.R_drewN | apply Kd.R_drew)); exact HO207.out))) (Kd.R_lt (by (with_reducible repeat (first | apply Kd.R_alloc | apply Kd.R_drewN | apply Kd.R_drew)); exact HO210.out))) (Kd.R_lt (by (with_reducible repeat (first | apply Kd.R_alloc | apply Kd.R_drewN | apply Kd.R_drew)); exact HO213.out))) (below_size (by repeat (first | (with_reducible first | exact HB.out | apply below_alloc | apply pw_below_drewN | apply below_drew1 | refine below_set ?_ GE198.out | refine below_set ?_ GE199.out | refine below_set ?_ GE221.out) | exact HB.out))))
          have n5_ := Aside0.mk (Kd.R_lower (Kd.R_new' (Kd.R_new' (Kd.R_new' (Kd.R_new' ho1 (Kd.R_lt (by (with_reducible repeat (first | apply Kd.R_alloc | apply Kd.R_drewN | apply Kd.R_drew)); exact HO204.out))) (Kd.R_lt (by (with_reducible repeat (first | apply Kd.R_alloc | apply Kd.R_drewN | apply Kd.R_drew)); exact HO207.out))) (Kd.R_lt (by (with_reducible repeat (first | apply Kd.R_alloc | apply Kd.R_drewN | apply Kd.R_drew)); exact HO210.out))) (Kd.R_lt (by (with_reducible repeat (first | apply Kd.R_alloc | apply Kd.R_drewN | apply Kd.R_drew)); exact HO213.out))) (below_size (by repeat (first | (with_reducible first | exact HB.out | apply below_alloc | apply pw_below_drewN | apply below_drew1 | refine below_set ?_ GE198.out | refine below_set ?_ GE199.out | refine below_set ?_ GE221.out) | exact HB.out))))
          have n6_ := Aside0.mk (blk_below (g := gb198) (o := .cells #[.slice A0_0 l0_0.length c0_0, .slice A0_1 l0_1.length c0_1] 37 (0, 0)) (by (with_reducible repeat (first | refine blk_drewN ?_ _ | refine blk_drew ?_ | refine blk_alloc ?_ _)); exact BK198.out) hb)
          have n7_ := Aside0.mk (blk_below (g := gb199) (o := .cells #[.slice A1_0 l1_0.length c1_0, .slice A1_1 l1_1.length c1_1] 37 (0, 0)) (by (with_reducible repeat (first | refine blk_drewN ?_ _ | refine blk_drew ?_ | refine blk_alloc ?_ _)); exact BK199.out) hb)
          have n8_ := Aside0.mk (blk_below (g := gb221) (o := .cells #[.slice none 0 0, .slice none 0 0] 26 (0, 0)) (by (with_reducible repeat (first | refine blk_drewN ?_ _ | refine blk_drew ?_ | refine blk_alloc ?_ _)); exact BK221.out) hb)
          have n9_ := Aside0.mk (below_step (by repeat (first | (with_reducible first | exact HB.out | apply below_alloc | apply pw_below_drewN | apply below_drew1 | refine below_set ?_ GE198.out | refine below_set ?_ GE199.out | refine below_set ?_ GE221.out) | exact HB.out)) hb)
          clear HO204
          clear HO207
          clear HO210
          clear HO213
          clear BK198
          clear BK199
          clear BK221
          clear HB
          have HO204 := n0_
          have HO207 := n1_
          have HO210 := n2_
          have HO213 := n3_
          have HO216 := n4_
          have HO219 := n5_
          have BK198 := n6_
          have BK199 := n7_
          have BK221 := n8_
          have HB := n9_
          clear n0_ n1_ n2_ n3_ n4_ n5_ n6_ n7_ n8_ n9_
          (try clear hb)
          (try clear hb2)
          (try clear hk)
          (try clear hi)
          (try clear ho0)
          (try clear ho1)
          refine hK.out _ _ ⟨(blk_cell BK198.out 0).trans rfl, (blk_cell BK198.out 1).trans rfl, (blk_cell BK199.out 0).trans rfl, (blk_cell BK199.out 1).trans rfl⟩ (fun hHeld => ?_)
          clear hK K
          refine norm_ (a' := ?_) ?_ ?_
          rotate_left
          · show Act.put _ (some 32) _ = _
            simp only [Act.put, List.setIfInBounds_toArray, List.set_cons_zero, List.set_cons_succ, i64_w, i32_w]
            rfl
          refine pure_ (i := 5) (N := some 27) (v := ?_) (a' := ?_) #[true, true, true, true, true, true, false, false, true, false, false] rfl rfl (any_of HT_.out (by kernel_rfl)) (fun _ _ _ h => h) (Or.inl ⟨by rfl, ?_⟩) ?_ ?_
          rotate_left
          · intro w'
            go_simp
            with_reducible rfl
          rotate_left
          · simp only [Act.put, List.setIfInBounds_toArray, List.set_cons_zero, List.set_cons_succ, i64_w, i32_w]
            rfl
          refine pure_ (i := 6) (N := some 33) (v := ?_) (a' := ?_) #[true, true, true, true, true, true, true, false, true, false, false] rfl rfl (any_of HT_.out (by kernel_rfl)) (fun _ _ _ h => h) (Or.inl ⟨by rfl, ?_⟩) ?_ ?_
          rotate_left
          · intro w'
            go_simp
            with_reducible rfl
          rotate_left
          · simp only [Act.put, List.setIfInBounds_toArray, List.set_cons_zero, List.set_cons_succ, i64_w, i32_w]
            rfl
          refine pure_ (i := 7) (N := some 34) (v := ?_) (a' := ?_) #[true, true, true, true, true, true, true, true, true, false, false] rfl rfl (any_of HT_.out (by kernel_rfl)) (fun _ _ _ h => h) (Or.inl ⟨by rfl, ?_⟩) ?_ ?_
          rotate_left
          · intro w'
            go_simp
            with_reducible rfl
          rotate_left
          · simp only [Act.put, List.setIfInBounds_toArray, List.set_cons_zero, List.set_cons_succ, i64_w, i32_w]
            rfl
          exact norm_ (by simp only [putAll, Act.put, List.setIfInBounds_toArray, List.set_cons_zero, List.set_cons_succ]) (hCont (.slice Ao37 t202.length co37, .slice Ao38 t205.length co38, .slice Ao39 t208.length co39, .slice Ao40 t211.length co40, v215, v218, gb221) _ ⟨hHeld, (by (with_reducible repeat (first | apply Kd.R_alloc | apply Kd.R_drewN | apply Kd.R_drew)); exact Kd.R_mono HO204.out (fun _ hk => ⟨hk.1.1.1.1, ⟨hk.1.1.1.2, ⟨hk.1.1.2, ⟨hk.1.2, hk.2⟩⟩⟩⟩)), (by (with_reducible repeat (first | apply Kd.R_alloc | apply Kd.R_drewN | apply Kd.R_drew)); exact Kd.R_mono HO207.out (fun _ hk => ⟨hk.1.1.1.1, ⟨hk.1.1.1.2, ⟨hk.1.1.2, ⟨hk.1.2, hk.2⟩⟩⟩⟩)), (by (with_reducible repeat (first | apply Kd.R_alloc | apply Kd.R_drewN | apply Kd.R_drew)); exact Kd.R_mono HO210.out (fun _ hk => ⟨hk.1.1.1.2, ⟨hk.1.1.2, ⟨hk.1.1.1.1, ⟨hk.1.2, hk.2⟩⟩⟩⟩)), (by (with_reducible repeat (first | apply Kd.R_alloc | apply Kd.R_drewN | apply Kd.R_drew)); exact Kd.R_mono HO213.out (fun _ hk => ⟨hk.1.1.1.2, ⟨hk.1.1.2, ⟨hk.1.1.1.1, ⟨hk.1.2, hk.2⟩⟩⟩⟩)), (by (with_reducible repeat (first | apply Kd.R_alloc | apply Kd.R_drewN | apply Kd.R_drew)); exact Kd.R_mono HO216.out (fun _ hk => ⟨hk.1.1.1.2, ⟨hk.1.1.2, ⟨hk.1.2, ⟨hk.2, hk.1.1.1.1⟩⟩⟩⟩)), (by (with_reducible repeat (first | apply Kd.R_alloc | apply Kd.R_drewN | apply Kd.R_drew)); exact Kd.R_mono HO219.out (fun _ hk => ⟨hk.1.1.1.2, ⟨hk.1.1.2, ⟨hk.1.2, ⟨hk.2, hk.1.1.1.1⟩⟩⟩⟩)), (by (with_reducible repeat (first | refine blk_drewN ?_ _ | refine blk_drew ?_ | refine blk_alloc ?_ _)); exact BK198.out), (by (with_reducible repeat (first | refine blk_drewN ?_ _ | refine blk_drew ?_ | refine blk_alloc ?_ _)); exact BK199.out), (by (with_reducible repeat (first | refine blk_drewN ?_ _ | refine blk_drew ?_ | refine blk_alloc ?_ _)); exact BK221.out), GW221.out, GE221.out, NB198_221.out, NB221_198.out, NB199_221.out, NB221_199.out, (by repeat (first | (with_reducible first | exact HB.out | apply below_alloc | apply pw_below_drewN | apply below_drew1 | refine below_set ?_ GE198.out | refine below_set ?_ GE199.out | refine below_set ?_ GE221.out) | exact HB.out))⟩)
      rintro ⟨v203, v206, v209, v212, v215, v218, gb221⟩ w42 ⟨hS_, h0_, h1_, h2_, h3_, h4_, h5_, h6_, h7_, h8_, h9_, h10_, h11_, h12_, h13_, h14_, h15_⟩
      have n0_ : Aside0 (Kd.R (Kd.int .i64) 3 w42 w.heap.size (fun k_ => some k_ ≠ (v206 : Value).ownBlock ∧ some k_ ≠ (v209 : Value).ownBlock ∧ some k_ ≠ (v212 : Value).ownBlock ∧ some k_ ≠ (v215 : Value).ownBlock ∧ some k_ ≠ (v218 : Value).ownBlock) v203 t202) := ⟨h0_⟩
      have n1_ : Aside0 (Kd.R (Kd.int .i64) 3 w42 w.heap.size (fun k_ => some k_ ≠ (v203 : Value).ownBlock ∧ some k_ ≠ (v209 : Value).ownBlock ∧ some k_ ≠ (v212 : Value).ownBlock ∧ some k_ ≠ (v215 : Value).ownBlock ∧ some k_ ≠ (v218 : Value).ownBlock) v206 t205) := ⟨h1_⟩
      have n2_ : Aside0 (Kd.R (Kd.int .i64) 3 w42 w.heap.size (fun k_ => some k_ ≠ (v203 : Value).ownBlock ∧ some k_ ≠ (v206 : Value).ownBlock ∧ some k_ ≠ (v212 : Value).ownBlock ∧ some k_ ≠ (v215 : Value).ownBlock ∧ some k_ ≠ (v218 : Value).ownBlock) v209 t208) := ⟨h2_⟩
      have n3_ : Aside0 (Kd.R (Kd.int .i64) 3 w42 w.heap.size (fun k_ => some k_ ≠ (v203 : Value).ownBlock ∧ some k_ ≠ (v206 : Value).ownBlock ∧ some k_ ≠ (v209 : Value).ownBlock ∧ some k_ ≠ (v215 : Value).ownBlock ∧ some k_ ≠ (v218 : Value).ownBlock) v212 t211) := ⟨h3_⟩
      have n4_ : Aside0 (Kd.R (Kd.int .i64) 3 w42 w.heap.size (fun k_ => some k_ ≠ (v203 : Value).ownBlock ∧ some k_ ≠ (v206 : Value).ownBlock ∧ some k_ ≠ (v209 : Value).ownBlock ∧ some k_ ≠ (v212 : Value).ownBlock ∧ some k_ ≠ (v218 : Value).ownBlock) v215 t214) := ⟨h4_⟩
      have n5_ : Aside0 (Kd.R (Kd.int .i64) 3 w42 w.heap.size (fun k_ => some k_ ≠ (v203 : Value).ownBlock ∧ some k_ ≠ (v206 : Value).ownBlock ∧ some k_ ≠ (v209 : Value).ownBlock ∧ some k_ ≠ (v212 : Value).ownBlock ∧ some k_ ≠ (v215 : Value).ownBlock) v218 t217) := ⟨h5_⟩
      have n6_ : Aside0 (w42.heap[gb198]? = some (.cells #[.slice A0_0 l0_0.length c0_0, .slice A0_1 l0_1.length c0_1] 37 (0, 0))) := ⟨h6_⟩
      have n7_ : Aside0 (w42.heap[gb199]? = some (.cells #[.slice A1_0 l1_0.length c1_0, .slice A1_1 l1_1.length c1_1] 37 (0, 0))) := ⟨h7_⟩
      have n8_ : Aside0 (w42.heap[gb221]? = some (.cells #[.slice none 0 0, .slice none 0 0] 26 (0, 0))) := ⟨h8_⟩
      have n9_ : Aside0 (w.heap.size ≤ gb221) := ⟨h9_⟩
      have n10_ : Aside0 (w.heap.size ≤ gb221) := ⟨h10_⟩
      have n11_ : Aside0 (gb198 ≠ gb221) := ⟨h11_⟩
      have n12_ : Aside0 (gb221 ≠ gb198) := ⟨h12_⟩
      have n13_ : Aside0 (gb199 ≠ gb221) := ⟨h13_⟩
      have n14_ : Aside0 (gb221 ≠ gb199) := ⟨h14_⟩
      have n15_ : Aside0 (Below w.heap.size w w42) := ⟨h15_⟩
      clear BK198
      clear BK199
      clear HB
      clear h0_ h1_ h2_ h3_ h4_ h5_ h6_ h7_ h8_ h9_ h10_ h11_ h12_ h13_ h14_ h15_
      have HO204 := n0_
      have HO207 := n1_
      have HO210 := n2_
      have HO213 := n3_
      have HO216 := n4_
      have HO219 := n5_
      have BK198 := n6_
      have BK199 := n7_
      have BK221 := n8_
      have GW221 := n9_
      have GE221 := n10_
      have NB198_221 := n11_
      have NB221_198 := n12_
      have NB199_221 := n13_
      have NB221_199 := n14_
      have HB := n15_
      clear n0_ n1_ n2_ n3_ n4_ n5_ n6_ n7_ n8_ n9_ n10_ n11_ n12_ n13_ n14_ n15_
      have hHeld : w42.cell? ⟨gb198, 0, none⟩ = some (.slice A0_0 l0_0.length c0_0) ∧ w42.cell? ⟨gb198, 1, none⟩ = some (.slice A0_1 l0_1.length c0_1) ∧ w42.cell? ⟨gb199, 0, none⟩ = some (.slice A1_0 l1_0.length c1_0) ∧ w42.cell? ⟨gb199, 1, none⟩ = some (.slice A1_1 l1_1.length c1_1) := hS_
      obtain ⟨Ao43, co43, eo43⟩ := Kd.R_slice HO216.out
      (first | subst eo43 | (injection eo43 with f1_ f2_ f3_; have f4_ := f1_.symm; have f5_ := f3_.symm; clear f1_ f2_ f3_; subst f4_; subst f5_))
      obtain ⟨Ao45, co45, eo45⟩ := Kd.R_slice HO219.out
      (first | subst eo45 | (injection eo45 with f1_ f2_ f3_; have f4_ := f1_.symm; have f5_ := f3_.symm; clear f1_ f2_ f3_; subst f4_; subst f5_))
      refine norm_ (a' := ?_) ?_ ?_
      rotate_left
      · simp only [putAll, Act.put, List.setIfInBounds_toArray, List.set_cons_zero, List.set_cons_succ]
        rfl
      refine one_ (i := 9) (N := none) #[true, true, true, true, true, true, true, true, true, true, false] rfl rfl (one_of HT_.out (by kernel_rfl)) (by decide) (fun K hK => ?_)
      have hs44 : w42.cell? ⟨gb221, 0, none⟩ = some (.slice none 0 0) := (blk_cell BK221.out 0).trans rfl
      have hfs44 := blk_frozen BK221.out 0
      have hns44_0 := NB198_221.out
      have hns44_1 := NB199_221.out
      have hms44_0 := NB221_198.out
      have hms44_1 := NB221_199.out
      have hs46 : w42.cell? ⟨gb221, 1, none⟩ = some (.slice none 0 0) := (blk_cell BK221.out 1).trans rfl
      have hfs46 := blk_frozen BK221.out 1
      have hns46_0 := NB198_221.out
      have hns46_1 := NB199_221.out
      have hms46_0 := NB221_198.out
      have hms46_1 := NB221_199.out
      refine skip_ (w1 := ?_) (by rfl) rfl ?_ ?_
      rotate_left
      · go_simp
        rfl
      refine hK.out _ _ ⟨((cell_far (p := ⟨gb221, _, none⟩) NB198_221.out _).trans (((cell_far (p := ⟨gb221, _, none⟩) NB198_221.out _).trans (hHeld.1)))), ((cell_far (p := ⟨gb221, _, none⟩) NB198_221.out _).trans (((cell_far (p := ⟨gb221, _, none⟩) NB198_221.out _).trans (hHeld.2.1)))), ((cell_far (p := ⟨gb221, _, none⟩) NB199_221.out _).trans (((cell_far (p := ⟨gb221, _, none⟩) NB199_221.out _).trans (hHeld.2.2.1)))), ((cell_far (p := ⟨gb221, _, none⟩) NB199_221.out _).trans (((cell_far (p := ⟨gb221, _, none⟩) NB199_221.out _).trans (hHeld.2.2.2))))⟩ (fun hHeld => ?_)
      clear hK K
      refine pure_ (i := 10) (N := some 7) (v := ?_) (a' := ?_) #[true, true, true, true, true, true, true, true, true, true, true] rfl rfl (any_of HT_.out (by kernel_rfl)) (fun _ _ _ h => h) (Or.inl ⟨by rfl, ?_⟩) ?_ ?_
      rotate_left
      · intro w'
        go_simp
        with_reducible rfl
      rotate_left
      · simp only [Act.put, List.setIfInBounds_toArray, List.set_cons_zero, List.set_cons_succ, i64_w, i32_w]
        rfl
      refine done_ (done_of HT_.out (by kernel_rfl)) ?_
      have hnb47 := NB198_221.out
      have hnc47 := NB221_198.out
      have hcz48_0 : w42.cell? ⟨gb198, 0, none⟩ = some (.slice A0_0 l0_0.length c0_0) := (blk_cell BK198.out 0).trans rfl
      have hcz48_1 : w42.cell? ⟨gb198, 1, none⟩ = some (.slice A0_1 l0_1.length c0_1) := (blk_cell BK198.out 1).trans rfl
      have hfz48_0 := blk_frozen BK198.out 0
      have hfz48_1 := blk_frozen BK198.out 1
      go_upto_region 12 with (first | ((with_reducible refine gate_callee (f := 25) rfl ?_); refine goesL_ (some 36) rfl rfl Try.func25 (by kernel_rfl) rfl #[.agg #[.slice A0_0 l0_0.length c0_0, .slice A0_1 l0_1.length c0_1]] rfl (by (try simp only [List.map_toArray, List.map_cons, List.map_nil]); first | done | rfl | (simp only [List.length_drop, List.length_take]; rfl)) ?_; (with_reducible refine (laws_toArray.calls k _ _ l0_0 _ _ l0_1 t222 t225 _ ?side1 ?side2 ?side3 ?side4 A22.out).mono ?_); (case side1 => exact Kd.C_below HR0_0.out (by repeat (first | (with_reducible first | exact HB.out | apply below_alloc | apply pw_below_drewN | apply below_drew1 | refine below_set ?_ GE198.out | refine below_set ?_ GE199.out | refine below_set ?_ GE221.out) | exact HB.out))); (case side2 => exact HC0_0.out); (case side3 => exact Kd.C_below HR0_1.out (by repeat (first | (with_reducible first | exact HB.out | apply below_alloc | apply pw_below_drewN | apply below_drew1 | refine below_set ?_ GE198.out | refine below_set ?_ GE199.out | refine below_set ?_ GE221.out) | exact HB.out))); (case side4 => exact HC0_1.out); rintro e w49 ⟨v223, v226, rfl, ho0, ho1, hb⟩; refine ⟨_, rfl, ?_⟩; have n0_ := Aside0.mk (Kd.R_mono (Kd.R_told (Kd.R_told (Kd.R_old (by (with_reducible repeat (first | apply Kd.R_alloc | apply Kd.R_drewN | apply Kd.R_drew)); exact (Kd.R_mono (Kd.R_far (p := ⟨gb221, 1, none⟩) (Kd.R_far (p := ⟨gb221, 0, none⟩) (Kd.R_types HO204.out BK221.out (by decide)) (fun _ hk => hk.2) (.slice Ao43 t214.length co43)) (fun _ hk => hk.2) (.slice Ao45 t217.length co45)) (fun _ h_ => h_.1))) hb) (Kd.R_base ho0)) (Kd.R_base ho1)) (fun _ h_ => h_.1)); have n1_ := Aside0.mk (Kd.R_mono (Kd.R_told (Kd.R_told (Kd.R_old (by (with_reducible repeat (first | apply Kd.R_alloc | apply Kd.R_drewN | apply Kd.R_drew)); exact (Kd.R_mono (Kd.R_far (p := ⟨gb221, 1, none⟩) (Kd.R_far (p := ⟨gb221, 0, none⟩) (Kd.R_types HO207.out BK221.out (by decide)) (fun _ hk => hk.2) (.slice Ao43 t214.length co43)) (fun _ hk => hk.2) (.slice Ao45 t217.length co45)) (fun _ h_ => h_.1))) hb) (Kd.R_base ho0)) (Kd.R_base ho1)) (fun _ h_ => h_.1)); have n2_ := Aside0.mk (Kd.R_mono (Kd.R_told (Kd.R_told (Kd.R_old (by (with_reducible repeat (first | apply Kd.R_alloc | apply Kd.R_drewN | apply Kd.R_drew)); exact (Kd.R_mono (Kd.R_far (p := ⟨gb221, 1, none⟩) (Kd.R_far (p := ⟨gb221, 0, none⟩) (Kd.R_types HO210.out BK221.out (by decide)) (fun _ hk => hk.2) (.slice Ao43 t214.length co43)) (fun _ hk => hk.2) (.slice Ao45 t217.length co45)) (fun _ h_ => h_.1))) hb) (Kd.R_base ho0)) (Kd.R_base ho1)) (fun _ h_ => h_.1)); have n3_ := Aside0.mk (Kd.R_mono (Kd.R_told (Kd.R_told (Kd.R_old (by (with_reducible repeat (first | apply Kd.R_alloc | apply Kd.R_drewN | apply Kd.R_drew)); exact (Kd.R_mono (Kd.R_far (p := ⟨gb221, 1, none⟩) (Kd.R_far (p := ⟨gb221, 0, none⟩) (Kd.R_types HO213.out BK221.out (by decide)) (fun _ hk => hk.2) (.slice Ao43 t214.length co43)) (fun _ hk => hk.2) (.slice Ao45 t217.length co45)) (fun _ h_ => h_.1))) hb) (Kd.R_base ho0)) (Kd.R_base ho1)) (fun _ h_ => h_.1)); have n4_ := Aside0.mk (Kd.R_mono (Kd.R_told (Kd.R_told (Kd.R_old (by (with_reducible repeat (first | apply Kd.R_alloc | apply Kd.R_drewN | apply Kd.R_drew)); exact (Kd.R_mono (Kd.R_far (p := ⟨gb221, 1, none⟩) (Kd.R_far (p := ⟨gb221, 0, none⟩) (Kd.R_types HO216.out BK221.out (by decide)) (fun _ hk => hk.2) (.slice Ao43 t214.length co43)) (fun _ hk => hk.2) (.slice Ao45 t217.length co45)) (fun _ h_ => h_.1))) hb) (Kd.R_base ho0)) (Kd.R_base ho1)) (fun _ h_ => h_.1)); have n5_ := Aside0.mk (Kd.R_mono (Kd.R_told (Kd.R_told (Kd.R_old (by (with_reducible repeat (first | apply Kd.R_alloc | apply Kd.R_drewN | apply Kd.R_drew)); exact (Kd.R_mono (Kd.R_far (p := ⟨gb221, 1, none⟩) (Kd.R_far (p := ⟨gb221, 0, none⟩) (Kd.R_types HO219.out BK221.out (by decide)) (fun _ hk => hk.2) (.slice Ao43 t214.length co43)) (fun _ hk => hk.2) (.slice Ao45 t217.length co45)) (fun _ h_ => h_.1))) hb) (Kd.R_base ho0)) (Kd.R_base ho1)) (fun _ h_ => h_.1)); have n6_ := Aside0.mk (Kd.R_lower (Kd.R_new' (Kd.R_new' (Kd.R_new' (Kd.R_new' (Kd.R_new' (Kd.R_new' ho0 (Kd.R_lt (by (with_reducible repeat (first | apply Kd.R_alloc | apply Kd.R_drewN | apply Kd.R_drew)); exact (Kd.R_mono (Kd.R_far (p := ⟨gb221, 1, none⟩) (Kd.R_far (p := ⟨gb221, 0, none⟩) (Kd.R_types HO204.out BK221.out (by decide)) (fun _ hk => hk.2) (.slice Ao43 t214.length co43)) (fun _ hk => hk.2) (.slice Ao45 t217.length co45)) (fun _ h_ => h_.1))))) (Kd.R_lt (by (with_reducible repeat (first | apply Kd.R_alloc | apply Kd.R_drewN | apply Kd.R_drew)); exact (Kd.R_mono (Kd.R_far (p := ⟨gb221, 1, none⟩) (Kd.R_far (p := ⟨gb221, 0, none⟩) (Kd.R_types HO207.out BK221.out (by decide)) (fun _ hk => hk.2) (.slice Ao43 t214.length co43)) (fun _ hk => hk.2) (.slice Ao45 t217.length co45)) (fun _ h_ => h_.1))))) (Kd.R_lt (by (with_reducible repeat (first | apply Kd.R_alloc | apply Kd.R_drewN | apply Kd.R_drew)); exact (Kd.R_mono (Kd.R_far (p := ⟨gb221, 1, none⟩) (Kd.R_far (p := ⟨gb221, 0, none⟩) (Kd.R_types HO210.out BK221.out (by decide)) (fun _ hk => hk.2) (.slice Ao43 t214.length co43)) (fun _ hk => hk.2) (.slice Ao45 t217.length co45)) (fun _ h_ => h_.1))))) (Kd.R_lt (by (with_reducible repeat (first | apply Kd.R_alloc | apply Kd.R_drewN | apply Kd.R_drew)); exact (Kd.R_mono (Kd.R_far (p := ⟨gb221, 1, none⟩) (Kd.R_far (p := ⟨gb221, 0, none⟩) (Kd.R_types HO213.out BK221.out (by decide)) (fun _ hk => hk.2) (.slice Ao43 t214.length co43)) (fun _ hk => hk.2) (.slice Ao45 t217.length co45)) (fun _ h_ => h_.1))))) (Kd.R_lt (by (with_reducible repeat (first | apply Kd.R_alloc | apply Kd.R_drewN | apply Kd.R_drew)); exact (Kd.R_mono (Kd.R_far (p := ⟨gb221, 1, none⟩) (Kd.R_far (p := ⟨gb221, 0, none⟩) (Kd.R_types HO216.out BK221.out (by decide)) (fun _ hk => hk.2) (.slice Ao43 t214.length co43)) (fun _ hk => hk.2) (.slice Ao45 t217.length co45)) (fun _ h_ => h_.1))))) (Kd.R_lt (by (with_reducible repeat (first | apply Kd.R_alloc | apply Kd.R_drewN | apply Kd.R_drew)); exact (Kd.R_mono (Kd.R_far (p := ⟨gb221, 1, none⟩) (Kd.R_far (p := ⟨gb221, 0, none⟩) (Kd.R_types HO219.out BK221.out (by decide)) (fun _ hk => hk.2) (.slice Ao43 t214.length co43)) (fun _ hk => hk.2) (.slice Ao45 t217.length co45)) (fun _ h_ => h_.1))))) (below_size (by repeat (first | (with_reducible first | exact HB.out | apply below_alloc | apply pw_below_drewN | apply below_drew1 | refine below_set ?_ GE198.out | refine below_set ?_ GE199.out | refine below_set ?_ GE221.out) | exact HB.out)))); have n7_ := Aside0.mk (Kd.R_lower (Kd.R_new' (Kd.R_new' (Kd.R_new' (Kd.R_new' (Kd.R_new' (Kd.R_new' ho1 (Kd.R_lt (by (with_reducible repeat (first | apply Kd.R_alloc | apply Kd.R_drewN | apply Kd.R_drew)); exact (Kd.R_mono (Kd.R_far (p := ⟨gb221, 1, none⟩) (Kd.R_far (p := ⟨gb221, 0, none⟩) (Kd.R_types HO204.out BK221.out (by decide)) (fun _ hk => hk.2) (.slice Ao43 t214.length co43)) (fun _ hk => hk.2) (.slice Ao45 t217.length co45)) (fun _ h_ => h_.1))))) (Kd.R_lt (by (with_reducible repeat (first | apply Kd.R_alloc | apply Kd.R_drewN | apply Kd.R_drew)); exact (Kd.R_mono (Kd.R_far (p := ⟨gb221, 1, none⟩) (Kd.R_far (p := ⟨gb221, 0, none⟩) (Kd.R_types HO207.out BK221.out (by decide)) (fun _ hk => hk.2) (.slice Ao43 t214.length co43)) (fun _ hk => hk.2) (.slice Ao45 t217.length co45)) (fun _ h_ => h_.1))))) (Kd.R_lt (by (with_reducible repeat (first | apply Kd.R_alloc | apply Kd.R_drewN | apply Kd.R_drew)); exact (Kd.R_mono (Kd.R_far (p := ⟨gb221, 1, none⟩) (Kd.R_far (p := ⟨gb221, 0, none⟩) (Kd.R_types HO210.out BK221.out (by decide)) (fun _ hk => hk.2) (.slice Ao43 t214.length co43)) (fun _ hk => hk.2) (.slice Ao45 t217.length co45)) (fun _ h_ => h_.1))))) (Kd.R_lt (by (with_reducible repeat (first | apply Kd.R_alloc | apply Kd.R_drewN | apply Kd.R_drew)); exact (Kd.R_mono (Kd.R_far (p := ⟨gb221, 1, none⟩) (Kd.R_far (p := ⟨gb221, 0, none⟩) (Kd.R_types HO213.out BK221.out (by decide)) (fun _ hk => hk.2) (.slice Ao43 t214.length co43)) (fun _ hk => hk.2) (.slice Ao45 t217.length co45)) (fun _ h_ => h_.1))))) (Kd.R_lt (by (with_reducible repeat (first | apply Kd.R_alloc | apply Kd.R_drewN | apply Kd.R_drew)); exact (Kd.R_mono (Kd.R_far (p := ⟨gb221, 1, none⟩) (Kd.R_far (p := ⟨gb221, 0, none⟩) (Kd.R_types HO216.out BK221.out (by decide)) (fun _ hk => hk.2) (.slice Ao43 t214.length co43)) (fun _ hk => hk.2) (.slice Ao45 t217.length co45)) (fun _ h_ => h_.1))))) (Kd.R_lt (by (with_reducible repeat (first | apply Kd.R_alloc | apply Kd.R_drewN | apply Kd.R_drew)); exact (Kd.R_mono (Kd.R_far (p := ⟨gb221, 1, none⟩) (Kd.R_far (p := ⟨gb221, 0, none⟩) (Kd.R_types HO219.out BK221.out (by decide)) (fun _ hk => hk.2) (.slice Ao43 t214.length co43)) (fun _ hk => hk.2) (.slice Ao45 t217.length co45)) (fun _ h_ => h_.1))))) (below_size (by repeat (first | (with_reducible first | exact HB.out | apply below_alloc | apply pw_below_drewN | apply below_drew1 | refine below_set ?_ GE198.out | refine below_set ?_ GE199.out | refine below_set ?_ GE221.out) | exact HB.out)))); have n8_ := Aside0.mk (blk_below (g := gb198) (o := .cells #[.slice A0_0 l0_0.length c0_0, .slice A0_1 l0_1.length c0_1] 37 (0, 0)) (by (with_reducible repeat (first | refine blk_drewN ?_ _ | refine blk_drew ?_ | refine blk_alloc ?_ _)); refine blk_far ?_ NB198_221.out _; (with_reducible repeat (first | refine blk_drewN ?_ _ | refine blk_drew ?_ | refine blk_alloc ?_ _)); refine blk_far ?_ NB198_221.out _; (with_reducible repeat (first | refine blk_drewN ?_ _ | refine blk_drew ?_ | refine blk_alloc ?_ _)); exact BK198.out) hb); have n9_ := Aside0.mk (blk_below (g := gb199) (o := .cells #[.slice A1_0 l1_0.length c1_0, .slice A1_1 l1_1.length c1_1] 37 (0, 0)) (by (with_reducible repeat (first | refine blk_drewN ?_ _ | refine blk_drew ?_ | refine blk_alloc ?_ _)); refine blk_far ?_ NB199_221.out _; (with_reducible repeat (first | refine blk_drewN ?_ _ | refine blk_drew ?_ | refine blk_alloc ?_ _)); refine blk_far ?_ NB199_221.out _; (with_reducible repeat (first | refine blk_drewN ?_ _ | refine blk_drew ?_ | refine blk_alloc ?_ _)); exact BK199.out) hb); have n10_ := Aside0.mk (blk_below (g := gb221) (o := .cells #[.slice Ao43 t214.length co43, .slice Ao45 t217.length co45] 26 (0, 0)) (by (with_reducible repeat (first | refine blk_drewN ?_ _ | refine blk_drew ?_ | refine blk_alloc ?_ _)); refine blk_put (cs := #[.slice Ao43 t214.length co43, .slice none 0 0]) ?_ 1 _ rfl; (with_reducible repeat (first | refine blk_drewN ?_ _ | refine blk_drew ?_ | refine blk_alloc ?_ _)); refine blk_put (cs := #[.slice none 0 0, .slice none 0 0]) ?_ 0 _ rfl; (with_reducible repeat (first | refine blk_drewN ?_ _ | refine blk_drew ?_ | refine blk_alloc ?_ _)); exact BK221.out) hb); have n11_ := Aside0.mk (below_step (by repeat (first | (with_reducible first | exact HB.out | apply below_alloc | apply pw_below_drewN | apply below_drew1 | refine below_set ?_ GE198.out | refine below_set ?_ GE199.out | refine below_set ?_ GE221.out) | exact HB.out)) hb); clear HO204; clear HO207; clear HO210; clear HO213; clear HO216; clear HO219; clear BK198; clear BK199; clear BK221; clear HB; have HO204 := n0_; have HO207 := n1_; have HO210 := n2_; have HO213 := n3_; have HO216 := n4_; have HO219 := n5_; have HO224 := n6_; have HO227 := n7_; have BK198 := n8_; have BK199 := n9_; have BK221 := n10_; have HB := n11_; clear n0_ n1_ n2_ n3_ n4_ n5_ n6_ n7_ n8_ n9_ n10_ n11_; (try clear hb); (try clear hb2); (try clear hk); (try clear hi); (try clear ho0); (try clear ho1)) | ((with_reducible refine gate_dst (N := 8) rfl ?_); refine box_event ?hg (N := 8) ?hd (cs := #[.slice none 0 0, .slice none 0 0]) (t := 26) ?hr ?_; (case hd => rfl); (case hg => rfl); (case hr => first | (go_simp; done) | (go_simp; rfl)); intro gb228 hg w50 hbox hb; have n0_ := Aside0.mk (Kd.R_below (by (with_reducible repeat (first | apply Kd.R_alloc | apply Kd.R_drewN | apply Kd.R_drew)); exact HO204.out) hb); have n1_ := Aside0.mk (Kd.R_below (by (with_reducible repeat (first | apply Kd.R_alloc | apply Kd.R_drewN | apply Kd.R_drew)); exact HO207.out) hb); have n2_ := Aside0.mk (Kd.R_below (by (with_reducible repeat (first | apply Kd.R_alloc | apply Kd.R_drewN | apply Kd.R_drew)); exact HO210.out) hb); have n3_ := Aside0.mk (Kd.R_below (by (with_reducible repeat (first | apply Kd.R_alloc | apply Kd.R_drewN | apply Kd.R_drew)); exact HO213.out) hb); have n4_ := Aside0.mk (Kd.R_below (by (with_reducible repeat (first | apply Kd.R_alloc | apply Kd.R_drewN | apply Kd.R_drew)); exact HO216.out) hb); have n5_ := Aside0.mk (Kd.R_below (by (with_reducible repeat (first | apply Kd.R_alloc | apply Kd.R_drewN | apply Kd.R_drew)); exact HO219.out) hb); have n6_ := Aside0.mk (Kd.R_below (by (with_reducible repeat (first | apply Kd.R_alloc | apply Kd.R_drewN | apply Kd.R_drew)); exact HO224.out) hb); have n7_ := Aside0.mk (Kd.R_below (by (with_reducible repeat (first | apply Kd.R_alloc | apply Kd.R_drewN | apply Kd.R_drew)); exact HO227.out) hb); have n8_ := Aside0.mk (blk_below (g := gb198) (o := .cells #[.slice A0_0 l0_0.length c0_0, .slice A0_1 l0_1.length c0_1] 37 (0, 0)) (by (with_reducible repeat (first | refine blk_drewN ?_ _ | refine blk_drew ?_ | refine blk_alloc ?_ _)); exact BK198.out) hb); have n9_ := Aside0.mk (blk_below (g := gb199) (o := .cells #[.slice A1_0 l1_0.length c1_0, .slice A1_1 l1_1.length c1_1] 37 (0, 0)) (by (with_reducible repeat (first | refine blk_drewN ?_ _ | refine blk_drew ?_ | refine blk_alloc ?_ _)); exact BK199.out) hb); have n10_ := Aside0.mk (blk_below (g := gb221) (o := .cells #[.slice Ao43 t214.length co43, .slice Ao45 t217.length co45] 26 (0, 0)) (by (with_reducible repeat (first | refine blk_drewN ?_ _ | refine blk_drew ?_ | refine blk_alloc ?_ _)); exact BK221.out) hb); have n11_ := Aside0.mk (below_step (by repeat (first | (with_reducible first | exact HB.out | apply below_alloc | apply pw_below_drewN | apply below_drew1 | refine below_set ?_ GE198.out | refine below_set ?_ GE199.out | refine below_set ?_ GE221.out) | exact HB.out)) hb); have n12_ := Aside0.mk (hbox); have n13_ := Aside0.mk ((by rw [hg]; exact (below_size (by repeat (first | (with_reducible first | exact HB.out | apply below_alloc | apply pw_below_drewN | apply below_drew1 | refine below_set ?_ GE198.out | refine below_set ?_ GE199.out | refine below_set ?_ GE221.out) | exact HB.out))) : w.heap.size ≤ gb228)); have n14_ := Aside0.mk ((by rw [hg]; exact (below_size (by repeat (first | (with_reducible first | exact HB.out | apply below_alloc | apply pw_below_drewN | apply below_drew1 | refine below_set ?_ GE198.out | refine below_set ?_ GE199.out | refine below_set ?_ GE221.out) | exact HB.out))) : w.heap.size ≤ gb228)); have n15_ := Aside0.mk ((by rw [hg]; exact Nat.ne_of_lt (blk_lt (g := gb198) (o := .cells #[.slice A0_0 l0_0.length c0_0, .slice A0_1 l0_1.length c0_1] 37 (0, 0)) (by (with_reducible repeat (first | refine blk_drewN ?_ _ | refine blk_drew ?_ | refine blk_alloc ?_ _)); exact BK198.out)) : gb198 ≠ gb228)); have n16_ := Aside0.mk ((by rw [hg]; exact Nat.ne_of_gt (blk_lt (g := gb198) (o := .cells #[.slice A0_0 l0_0.length c0_0, .slice A0_1 l0_1.length c0_1] 37 (0, 0)) (by (with_reducible repeat (first | refine blk_drewN ?_ _ | refine blk_drew ?_ | refine blk_alloc ?_ _)); exact BK198.out)) : gb228 ≠ gb198)); have n17_ := Aside0.mk ((by rw [hg]; exact Nat.ne_of_lt (blk_lt (g := gb199) (o := .cells #[.slice A1_0 l1_0.length c1_0, .slice A1_1 l1_1.length c1_1] 37 (0, 0)) (by (with_reducible repeat (first | refine blk_drewN ?_ _ | refine blk_drew ?_ | refine blk_alloc ?_ _)); exact BK199.out)) : gb199 ≠ gb228)); have n18_ := Aside0.mk ((by rw [hg]; exact Nat.ne_of_gt (blk_lt (g := gb199) (o := .cells #[.slice A1_0 l1_0.length c1_0, .slice A1_1 l1_1.length c1_1] 37 (0, 0)) (by (with_reducible repeat (first | refine blk_drewN ?_ _ | refine blk_drew ?_ | refine blk_alloc ?_ _)); exact BK199.out)) : gb228 ≠ gb199)); have n19_ := Aside0.mk ((by rw [hg]; exact Nat.ne_of_lt (blk_lt (g := gb221) (o := .cells #[.slice Ao43 t214.length co43, .slice Ao45 t217.length co45] 26 (0, 0)) (by (with_reducible repeat (first | refine blk_drewN ?_ _ | refine blk_drew ?_ | refine blk_alloc ?_ _)); exact BK221.out)) : gb221 ≠ gb228)); have n20_ := Aside0.mk ((by rw [hg]; exact Nat.ne_of_gt (blk_lt (g := gb221) (o := .cells #[.slice Ao43 t214.length co43, .slice Ao45 t217.length co45] 26 (0, 0)) (by (with_reducible repeat (first | refine blk_drewN ?_ _ | refine blk_drew ?_ | refine blk_alloc ?_ _)); exact BK221.out)) : gb228 ≠ gb221)); clear HO204; clear HO207; clear HO210; clear HO213; clear HO216; clear HO219; clear HO224; clear HO227; clear BK198; clear BK199; clear BK221; clear HB; have HO204 := n0_; have HO207 := n1_; have HO210 := n2_; have HO213 := n3_; have HO216 := n4_; have HO219 := n5_; have HO224 := n6_; have HO227 := n7_; have BK198 := n8_; have BK199 := n9_; have BK221 := n10_; have HB := n11_; have BK228 := n12_; have GW228 := n13_; have GE228 := n14_; have NB198_228 := n15_; have NB228_198 := n16_; have NB199_228 := n17_; have NB228_199 := n18_; have NB221_228 := n19_; have NB228_221 := n20_; clear n0_ n1_ n2_ n3_ n4_ n5_ n6_ n7_ n8_ n9_ n10_ n11_ n12_ n13_ n14_ n15_ n16_ n17_ n18_ n19_ n20_; clear hb hbox hg; obtain ⟨Ao51, co51, eo51⟩ := Kd.R_slice HO224.out; subst eo51; have hnb52 := NB228_198.out; have hnc52 := NB198_228.out; have hnb53 := NB228_199.out; have hnc53 := NB199_228.out; have hnb54 := NB228_221.out; have hnc54 := NB221_228.out; have hcz55_0 : w50.cell? ⟨gb228, 0, none⟩ = some (.slice none 0 0) := (blk_cell BK228.out 0).trans rfl; have hcz55_1 : w50.cell? ⟨gb228, 1, none⟩ = some (.slice none 0 0) := (blk_cell BK228.out 1).trans rfl; have hfz55_0 := blk_frozen BK228.out 0; have hfz55_1 := blk_frozen BK228.out 1; obtain ⟨Ao56, co56, eo56⟩ := Kd.R_slice HO227.out; subst eo56; have hnb57 := NB199_221.out; have hnc57 := NB221_199.out; have hcz58_0 : w50.cell? ⟨gb199, 0, none⟩ = some (.slice A1_0 l1_0.length c1_0) := (blk_cell BK199.out 0).trans rfl; have hcz58_1 : w50.cell? ⟨gb199, 1, none⟩ = some (.slice A1_1 l1_1.length c1_1) := (blk_cell BK199.out 1).trans rfl; have hfz58_0 := blk_frozen BK199.out 0; have hfz58_1 := blk_frozen BK199.out 1) | ((with_reducible refine gate_callee (f := 25) rfl ?_); refine goesL_ (some 38) rfl rfl Try.func25 (by kernel_rfl) rfl #[.agg #[.slice A1_0 l1_0.length c1_0, .slice A1_1 l1_1.length c1_1]] rfl (by (try simp only [List.map_toArray, List.map_cons, List.map_nil]); first | done | rfl | (simp only [List.length_drop, List.length_take]; rfl)) ?_; (with_reducible refine (laws_toArray.calls k _ _ l1_0 _ _ l1_1 t229 t232 _ ?side1 ?side2 ?side3 ?side4 A23.out).mono ?_); (case side1 => exact Kd.C_below HR1_0.out (by repeat (first | (with_reducible first | exact HB.out | apply below_alloc | apply pw_below_drewN | apply below_drew1 | refine below_set ?_ GE198.out | refine below_set ?_ GE199.out | refine below_set ?_ GE221.out | refine below_set ?_ GE228.out) | exact HB.out))); (case side2 => exact HC1_0.out); (case side3 => exact Kd.C_below HR1_1.out (by repeat (first | (with_reducible first | exact HB.out | apply below_alloc | apply pw_below_drewN | apply below_drew1 | refine below_set ?_ GE198.out | refine below_set ?_ GE199.out | refine below_set ?_ GE221.out | refine below_set ?_ GE228.out) | exact HB.out))); (case side4 => exact HC1_1.out); rintro e w59 ⟨v230, v233, rfl, ho0, ho1, hb⟩; refine ⟨_, rfl, ?_⟩; have n0_ := Aside0.mk (Kd.R_mono (Kd.R_told (Kd.R_told (Kd.R_old (by (with_reducible repeat (first | apply Kd.R_alloc | apply Kd.R_drewN | apply Kd.R_drew)); exact (Kd.R_mono (Kd.R_far (p := ⟨gb228, 1, none⟩) (Kd.R_far (p := ⟨gb228, 0, none⟩) (Kd.R_types HO204.out BK228.out (by decide)) (fun _ hk => hk.2) (.slice Ao51 t222.length co51)) (fun _ hk => hk.2) (.slice Ao56 t225.length co56)) (fun _ h_ => h_.1))) hb) (Kd.R_base ho0)) (Kd.R_base ho1)) (fun _ h_ => h_.1)); have n1_ := Aside0.mk (Kd.R_mono (Kd.R_told (Kd.R_told (Kd.R_old (by (with_reducible repeat (first | apply Kd.R_alloc | apply Kd.R_drewN | apply Kd.R_drew)); exact (Kd.R_mono (Kd.R_far (p := ⟨gb228, 1, none⟩) (Kd.R_far (p := ⟨gb228, 0, none⟩) (Kd.R_types HO207.out BK228.out (by decide)) (fun _ hk => hk.2) (.slice Ao51 t222.length co51)) (fun _ hk => hk.2) (.slice Ao56 t225.length co56)) (fun _ h_ => h_.1))) hb) (Kd.R_base ho0)) (Kd.R_base ho1)) (fun _ h_ => h_.1)); have n2_ := Aside0.mk (Kd.R_mono (Kd.R_told (Kd.R_told (Kd.R_old (by (with_reducible repeat (first | apply Kd.R_alloc | apply Kd.R_drewN | apply Kd.R_drew)); exact (Kd.R_mono (Kd.R_far (p := ⟨gb228, 1, none⟩) (Kd.R_far (p := ⟨gb228, 0, none⟩) (Kd.R_types HO210.out BK228.out (by decide)) (fun _ hk => hk.2) (.slice Ao51 t222.length co51)) (fun _ hk => hk.2) (.slice Ao56 t225.length co56)) (fun _ h_ => h_.1))) hb) (Kd.R_base ho0)) (Kd.R_base ho1)) (fun _ h_ => h_.1)); have n3_ := Aside0.mk (Kd.R_mono (Kd.R_told (Kd.R_told (Kd.R_old (by (with_reducible repeat (first | apply Kd.R_alloc | apply Kd.R_drewN | apply Kd.R_drew)); exact (Kd.R_mono (Kd.R_far (p := ⟨gb228, 1, none⟩) (Kd.R_far (p := ⟨gb228, 0, none⟩) (Kd.R_types HO213.out BK228.out (by decide)) (fun _ hk => hk.2) (.slice Ao51 t222.length co51)) (fun _ hk => hk.2) (.slice Ao56 t225.length co56)) (fun _ h_ => h_.1))) hb) (Kd.R_base ho0)) (Kd.R_base ho1)) (fun _ h_ => h_.1)); have n4_ := Aside0.mk (Kd.R_mono (Kd.R_told (Kd.R_told (Kd.R_old (by (with_reducible repeat (first | apply Kd.R_alloc | apply Kd.R_drewN | apply Kd.R_drew)); exact (Kd.R_mono (Kd.R_far (p := ⟨gb228, 1, none⟩) (Kd.R_far (p := ⟨gb228, 0, none⟩) (Kd.R_types HO216.out BK228.out (by decide)) (fun _ hk => hk.2) (.slice Ao51 t222.length co51)) (fun _ hk => hk.2) (.slice Ao56 t225.length co56)) (fun _ h_ => h_.1))) hb) (Kd.R_base ho0)) (Kd.R_base ho1)) (fun _ h_ => h_.1)); have n5_ := Aside0.mk (Kd.R_mono (Kd.R_told (Kd.R_told (Kd.R_old (by (with_reducible repeat (first | apply Kd.R_alloc | apply Kd.R_drewN | apply Kd.R_drew)); exact (Kd.R_mono (Kd.R_far (p := ⟨gb228, 1, none⟩) (Kd.R_far (p := ⟨gb228, 0, none⟩) (Kd.R_types HO219.out BK228.out (by decide)) (fun _ hk => hk.2) (.slice Ao51 t222.length co51)) (fun _ hk => hk.2) (.slice Ao56 t225.length co56)) (fun _ h_ => h_.1))) hb) (Kd.R_base ho0)) (Kd.R_base ho1)) (fun _ h_ => h_.1)); have n6_ := Aside0.mk (Kd.R_mono (Kd.R_told (Kd.R_told (Kd.R_old (by (with_reducible repeat (first | apply Kd.R_alloc | apply Kd.R_drewN | apply Kd.R_drew)); exact (Kd.R_mono (Kd.R_far (p := ⟨gb228, 1, none⟩) (Kd.R_far (p := ⟨gb228, 0, none⟩) (Kd.R_types HO224.out BK228.out (by decide)) (fun _ hk => hk.2) (.slice Ao51 t222.length co51)) (fun _ hk => hk.2) (.slice Ao56 t225.length co56)) (fun _ h_ => h_.1))) hb) (Kd.R_base ho0)) (Kd.R_base ho1)) (fun _ h_ => h_.1)); have n7_ := Aside0.mk (Kd.R_mono (Kd.R_told (Kd.R_told (Kd.R_old (by (with_reducible repeat (first | apply Kd.R_alloc | apply Kd.R_drewN | apply Kd.R_drew)); exact (Kd.R_mono (Kd.R_far (p := ⟨gb228, 1, none⟩) (Kd.R_far (p := ⟨gb228, 0, none⟩) (Kd.R_types HO227.out BK228.out (by decide)) (fun _ hk => hk.2) (.slice Ao51 t222.length co51)) (fun _ hk => hk.2) (.slice Ao56 t225.length co56)) (fun _ h_ => h_.1))) hb) (Kd.R_base ho0)) (Kd.R_base ho1)) (fun _ h_ => h_.1)); have n8_ := Aside0.mk (Kd.R_lower (Kd.R_new' (Kd.R_new' (Kd.R_new' (Kd.R_new' (Kd.R_new' (Kd.R_new' (Kd.R_new' (Kd.R_new' ho0 (Kd.R_lt (by (with_reducible repeat (first | apply Kd.R_alloc | apply Kd.R_drewN | apply Kd.R_drew)); exact (Kd.R_mono (Kd.R_far (p := ⟨gb228, 1, none⟩) (Kd.R_far (p := ⟨gb228, 0, none⟩) (Kd.R_types HO204.out BK228.out (by decide)) (fun _ hk => hk.2) (.slice Ao51 t222.length co51)) (fun _ hk => hk.2) (.slice Ao56 t225.length co56)) (fun _ h_ => h_.1))))) (Kd.R_lt (by (with_reducible repeat (first | apply Kd.R_alloc | apply Kd.R_drewN | apply Kd.R_drew)); exact (Kd.R_mono (Kd.R_far (p := ⟨gb228, 1, none⟩) (Kd.R_far (p := ⟨gb228, 0, none⟩) (Kd.R_types HO207.out BK228.out (by decide)) (fun _ hk => hk.2) (.slice Ao51 t222.length co51)) (fun _ hk => hk.2) (.slice Ao56 t225.length co56)) (fun _ h_ => h_.1))))) (Kd.R_lt (by (with_reducible repeat (first | apply Kd.R_alloc | apply Kd.R_drewN | apply Kd.R_drew)); exact (Kd.R_mono (Kd.R_far (p := ⟨gb228, 1, none⟩) (Kd.R_far (p := ⟨gb228, 0, none⟩) (Kd.R_types HO210.out BK228.out (by decide)) (fun _ hk => hk.2) (.slice Ao51 t222.length co51)) (fun _ hk => hk.2) (.slice Ao56 t225.length co56)) (fun _ h_ => h_.1))))) (Kd.R_lt (by (with_reducible repeat (first | apply Kd.R_alloc | apply Kd.R_drewN | apply Kd.R_drew)); exact (Kd.R_mono (Kd.R_far (p := ⟨gb228, 1, none⟩) (Kd.R_far (p := ⟨gb228, 0, none⟩) (Kd.R_types HO213.out BK228.out (by decide)) (fun _ hk => hk.2) (.slice Ao51 t222.length co51)) (fun _ hk => hk.2) (.slice Ao56 t225.length co56)) (fun _ h_ => h_.1))))) (Kd.R_lt (by (with_reducible repeat (first | apply Kd.R_alloc | apply Kd.R_drewN | apply Kd.R_drew)); exact (Kd.R_mono (Kd.R_far (p := ⟨gb228, 1, none⟩) (Kd.R_far (p := ⟨gb228, 0, none⟩) (Kd.R_types HO216.out BK228.out (by decide)) (fun _ hk => hk.2) (.slice Ao51 t222.length co51)) (fun _ hk => hk.2) (.slice Ao56 t225.length co56)) (fun _ h_ => h_.1))))) (Kd.R_lt (by (with_reducible repeat (first | apply Kd.R_alloc | apply Kd.R_drewN | apply Kd.R_drew)); exact (Kd.R_mono (Kd.R_far (p := ⟨gb228, 1, none⟩) (Kd.R_far (p := ⟨gb228, 0, none⟩) (Kd.R_types HO219.out BK228.out (by decide)) (fun _ hk => hk.2) (.slice Ao51 t222.length co51)) (fun _ hk => hk.2) (.slice Ao56 t225.length co56)) (fun _ h_ => h_.1))))) (Kd.R_lt (by (with_reducible repeat (first | apply Kd.R_alloc | apply Kd.R_drewN | apply Kd.R_drew)); exact (Kd.R_mono (Kd.R_far (p := ⟨gb228, 1, none⟩) (Kd.R_far (p := ⟨gb228, 0, none⟩) (Kd.R_types HO224.out BK228.out (by decide)) (fun _ hk => hk.2) (.slice Ao51 t222.length co51)) (fun _ hk => hk.2) (.slice Ao56 t225.length co56)) (fun _ h_ => h_.1))))) (Kd.R_lt (by (with_reducible repeat (first | apply Kd.R_alloc | apply Kd.R_drewN | apply Kd.R_drew)); exact (Kd.R_mono (Kd.R_far (p := ⟨gb228, 1, none⟩) (Kd.R_far (p := ⟨gb228, 0, none⟩) (Kd.R_types HO227.out BK228.out (by decide)) (fun _ hk => hk.2) (.slice Ao51 t222.length co51)) (fun _ hk => hk.2) (.slice Ao56 t225.length co56)) (fun _ h_ => h_.1))))) (below_size (by repeat (first | (with_reducible first | exact HB.out | apply below_alloc | apply pw_below_drewN | apply below_drew1 | refine below_set ?_ GE198.out | refine below_set ?_ GE199.out | refine below_set ?_ GE221.out | refine below_set ?_ GE228.out) | exact HB.out)))); have n9_ := Aside0.mk (Kd.R_lower (Kd.R_new' (Kd.R_new' (Kd.R_new' (Kd.R_new' (Kd.R_new' (Kd.R_new' (Kd.R_new' (Kd.R_new' ho1 (Kd.R_lt (by (with_reducible repeat (first | apply Kd.R_alloc | apply Kd.R_drewN | apply Kd.R_drew)); exact (Kd.R_mono (Kd.R_far (p := ⟨gb228, 1, none⟩) (Kd.R_far (p := ⟨gb228, 0, none⟩) (Kd.R_types HO204.out BK228.out (by decide)) (fun _ hk => hk.2) (.slice Ao51 t222.length co51)) (fun _ hk => hk.2) (.slice Ao56 t225.length co56)) (fun _ h_ => h_.1))))) (Kd.R_lt (by (with_reducible repeat (first | apply Kd.R_alloc | apply Kd.R_drewN | apply Kd.R_drew)); exact (Kd.R_mono (Kd.R_far (p := ⟨gb228, 1, none⟩) (Kd.R_far (p := ⟨gb228, 0, none⟩) (Kd.R_types HO207.out BK228.out (by decide)) (fun _ hk => hk.2) (.slice Ao51 t222.length co51)) (fun _ hk => hk.2) (.slice Ao56 t225.length co56)) (fun _ h_ => h_.1))))) (Kd.R_lt (by (with_reducible repeat (first | apply Kd.R_alloc | apply Kd.R_drewN | apply Kd.R_drew)); exact (Kd.R_mono (Kd.R_far (p := ⟨gb228, 1, none⟩) (Kd.R_far (p := ⟨gb228, 0, none⟩) (Kd.R_types HO210.out BK228.out (by decide)) (fun _ hk => hk.2) (.slice Ao51 t222.length co51)) (fun _ hk => hk.2) (.slice Ao56 t225.length co56)) (fun _ h_ => h_.1))))) (Kd.R_lt (by (with_reducible repeat (first | apply Kd.R_alloc | apply Kd.R_drewN | apply Kd.R_drew)); exact (Kd.R_mono (Kd.R_far (p := ⟨gb228, 1, none⟩) (Kd.R_far (p := ⟨gb228, 0, none⟩) (Kd.R_types HO213.out BK228.out (by decide)) (fun _ hk => hk.2) (.slice Ao51 t222.length co51)) (fun _ hk => hk.2) (.slice Ao56 t225.length co56)) (fun _ h_ => h_.1))))) (Kd.R_lt (by (with_reducible repeat (first | apply Kd.R_alloc | apply Kd.R_drewN | apply Kd.R_drew)); exact (Kd.R_mono (Kd.R_far (p := ⟨gb228, 1, none⟩) (Kd.R_far (p := ⟨gb228, 0, none⟩) (Kd.R_types HO216.out BK228.out (by decide)) (fun _ hk => hk.2) (.slice Ao51 t222.length co51)) (fun _ hk => hk.2) (.slice Ao56 t225.length co56)) (fun _ h_ => h_.1))))) (Kd.R_lt (by (with_reducible repeat (first | apply Kd.R_alloc | apply Kd.R_drewN | apply Kd.R_drew)); exact (Kd.R_mono (Kd.R_far (p := ⟨gb228, 1, none⟩) (Kd.R_far (p := ⟨gb228, 0, none⟩) (Kd.R_types HO219.out BK228.out (by decide)) (fun _ hk => hk.2) (.slice Ao51 t222.length co51)) (fun _ hk => hk.2) (.slice Ao56 t225.length co56)) (fun _ h_ => h_.1))))) (Kd.R_lt (by (with_reducible repeat (first | apply Kd.R_alloc | apply Kd.R_drewN | apply Kd.R_drew)); exact (Kd.R_mono (Kd.R_far (p := ⟨gb228, 1, none⟩) (Kd.R_far (p := ⟨gb228, 0, none⟩) (Kd.R_types HO224.out BK228.out (by decide)) (fun _ hk => hk.2) (.slice Ao51 t222.length co51)) (fun _ hk => hk.2) (.slice Ao56 t225.length co56)) (fun _ h_ => h_.1))))) (Kd.R_lt (by (with_reducible repeat (first | apply Kd.R_alloc | apply Kd.R_drewN | apply Kd.R_drew)); exact (Kd.R_mono (Kd.R_far (p := ⟨gb228, 1, none⟩) (Kd.R_far (p := ⟨gb228, 0, none⟩) (Kd.R_types HO227.out BK228.out (by decide)) (fun _ hk => hk.2) (.slice Ao51 t222.length co51)) (fun _ hk => hk.2) (.slice Ao56 t225.length co56)) (fun _ h_ => h_.1))))) (below_size (by repeat (first | (with_reducible first | exact HB.out | apply below_alloc | apply pw_below_drewN | apply below_drew1 | refine below_set ?_ GE198.out | refine below_set ?_ GE199.out | refine below_set ?_ GE221.out | refine below_set ?_ GE228.out) | exact HB.out)))); have n10_ := Aside0.mk (blk_below (g := gb198) (o := .cells #[.slice A0_0 l0_0.length c0_0, .slice A0_1 l0_1.length c0_1] 37 (0, 0)) (by (with_reducible repeat (first | refine blk_drewN ?_ _ | refine blk_drew ?_ | refine blk_alloc ?_ _)); refine blk_far ?_ NB198_228.out _; (with_reducible repeat (first | refine blk_drewN ?_ _ | refine blk_drew ?_ | refine blk_alloc ?_ _)); refine blk_far ?_ NB198_228.out _; (with_reducible repeat (first | refine blk_drewN ?_ _ | refine blk_drew ?_ | refine blk_alloc ?_ _)); exact BK198.out) hb); have n11_ := Aside0.mk (blk_below (g := gb199) (o := .cells #[.slice A1_0 l1_0.length c1_0, .slice A1_1 l1_1.length c1_1] 37 (0, 0)) (by (with_reducible repeat (first | refine blk_drewN ?_ _ | refine blk_drew ?_ | refine blk_alloc ?_ _)); refine blk_far ?_ NB199_228.out _; (with_reducible repeat (first | refine blk_drewN ?_ _ | refine blk_drew ?_ | refine blk_alloc ?_ _)); refine blk_far ?_ NB199_228.out _; (with_reducible repeat (first | refine blk_drewN ?_ _ | refine blk_drew ?_ | refine blk_alloc ?_ _)); exact BK199.out) hb); have n12_ := Aside0.mk (blk_below (g := gb221) (o := .cells #[.slice Ao43 t214.length co43, .slice Ao45 t217.length co45] 26 (0, 0)) (by (with_reducible repeat (first | refine blk_drewN ?_ _ | refine blk_drew ?_ | refine blk_alloc ?_ _)); refine blk_far ?_ NB221_228.out _; (with_reducible repeat (first | refine blk_drewN ?_ _ | refine blk_drew ?_ | refine blk_alloc ?_ _)); refine blk_far ?_ NB221_228.out _; (with_reducible repeat (first | refine blk_drewN ?_ _ | refine blk_drew ?_ | refine blk_alloc ?_ _)); exact BK221.out) hb); have n13_ := Aside0.mk (blk_below (g := gb228) (o := .cells #[.slice Ao51 t222.length co51, .slice Ao56 t225.length co56] 26 (0, 0)) (by (with_reducible repeat (first | refine blk_drewN ?_ _ | refine blk_drew ?_ | refine blk_alloc ?_ _)); refine blk_put (cs := #[.slice Ao51 t222.length co51, .slice none 0 0]) ?_ 1 _ rfl; (with_reducible repeat (first | refine blk_drewN ?_ _ | refine blk_drew ?_ | refine blk_alloc ?_ _)); refine blk_put (cs := #[.slice none 0 0, .slice none 0 0]) ?_ 0 _ rfl; (with_reducible repeat (first | refine blk_drewN ?_ _ | refine blk_drew ?_ | refine blk_alloc ?_ _)); exact BK228.out) hb); have n14_ := Aside0.mk (below_step (by repeat (first | (with_reducible first | exact HB.out | apply below_alloc | apply pw_below_drewN | apply below_drew1 | refine below_set ?_ GE198.out | refine below_set ?_ GE199.out | refine below_set ?_ GE221.out | refine below_set ?_ GE228.out) | exact HB.out)) hb); clear HO204; clear HO207; clear HO210; clear HO213; clear HO216; clear HO219; clear HO224; clear HO227; clear BK198; clear BK199; clear BK221; clear BK228; clear HB; have HO204 := n0_; have HO207 := n1_; have HO210 := n2_; have HO213 := n3_; have HO216 := n4_; have HO219 := n5_; have HO224 := n6_; have HO227 := n7_; have HO231 := n8_; have HO234 := n9_; have BK198 := n10_; have BK199 := n11_; have BK221 := n12_; have BK228 := n13_; have HB := n14_; clear n0_ n1_ n2_ n3_ n4_ n5_ n6_ n7_ n8_ n9_ n10_ n11_ n12_ n13_ n14_; (try clear hb); (try clear hb2); (try clear hk); (try clear hi); (try clear ho0); (try clear ho1)) | ((with_reducible refine gate_dst (N := 9) rfl ?_); refine box_event ?hg (N := 9) ?hd (cs := #[.slice none 0 0, .slice none 0 0]) (t := 26) ?hr ?_; (case hd => rfl); (case hg => rfl); (case hr => first | (go_simp; done) | (go_simp; rfl)); intro gb235 hg w60 hbox hb; have n0_ := Aside0.mk (Kd.R_below (by (with_reducible repeat (first | apply Kd.R_alloc | apply Kd.R_drewN | apply Kd.R_drew)); exact HO204.out) hb); have n1_ := Aside0.mk (Kd.R_below (by (with_reducible repeat (first | apply Kd.R_alloc | apply Kd.R_drewN | apply Kd.R_drew)); exact HO207.out) hb); have n2_ := Aside0.mk (Kd.R_below (by (with_reducible repeat (first | apply Kd.R_alloc | apply Kd.R_drewN | apply Kd.R_drew)); exact HO210.out) hb); have n3_ := Aside0.mk (Kd.R_below (by (with_reducible repeat (first | apply Kd.R_alloc | apply Kd.R_drewN | apply Kd.R_drew)); exact HO213.out) hb); have n4_ := Aside0.mk (Kd.R_below (by (with_reducible repeat (first | apply Kd.R_alloc | apply Kd.R_drewN | apply Kd.R_drew)); exact HO216.out) hb); have n5_ := Aside0.mk (Kd.R_below (by (with_reducible repeat (first | apply Kd.R_alloc | apply Kd.R_drewN | apply Kd.R_drew)); exact HO219.out) hb); have n6_ := Aside0.mk (Kd.R_below (by (with_reducible repeat (first | apply Kd.R_alloc | apply Kd.R_drewN | apply Kd.R_drew)); exact HO224.out) hb); have n7_ := Aside0.mk (Kd.R_below (by (with_reducible repeat (first | apply Kd.R_alloc | apply Kd.R_drewN | apply Kd.R_drew)); exact HO227.out) hb); have n8_ := Aside0.mk (Kd.R_below (by (with_reducible repeat (first | apply Kd.R_alloc | apply Kd.R_drewN | apply Kd.R_drew)); exact HO231.out) hb); have n9_ := Aside0.mk (Kd.R_below (by (with_reducible repeat (first | apply Kd.R_alloc | apply Kd.R_drewN | apply Kd.R_drew)); exact HO234.out) hb); have n10_ := Aside0.mk (blk_below (g := gb198) (o := .cells #[.slice A0_0 l0_0.length c0_0, .slice A0_1 l0_1.length c0_1] 37 (0, 0)) (by (with_reducible repeat (first | refine blk_drewN ?_ _ | refine blk_drew ?_ | refine blk_alloc ?_ _)); exact BK198.out) hb); have n11_ := Aside0.mk (blk_below (g := gb199) (o := .cells #[.slice A1_0 l1_0.length c1_0, .slice A1_1 l1_1.length c1_1] 37 (0, 0)) (by (with_reducible repeat (first | refine blk_drewN ?_ _ | refine blk_drew ?_ | refine blk_alloc ?_ _)); exact BK199.out) hb); have n12_ := Aside0.mk (blk_below (g := gb221) (o := .cells #[.slice Ao43 t214.length co43, .slice Ao45 t217.length co45] 26 (0, 0)) (by (with_reducible repeat (first | refine blk_drewN ?_ _ | refine blk_drew ?_ | refine blk_alloc ?_ _)); exact BK221.out) hb); have n13_ := Aside0.mk (blk_below (g := gb228) (o := .cells #[.slice Ao51 t222.length co51, .slice Ao56 t225.length co56] 26 (0, 0)) (by (with_reducible repeat (first | refine blk_drewN ?_ _ | refine blk_drew ?_ | refine blk_alloc ?_ _)); exact BK228.out) hb); have n14_ := Aside0.mk (below_step (by repeat (first | (with_reducible first | exact HB.out | apply below_alloc | apply pw_below_drewN | apply below_drew1 | refine below_set ?_ GE198.out | refine below_set ?_ GE199.out | refine below_set ?_ GE221.out | refine below_set ?_ GE228.out) | exact HB.out)) hb); have n15_ := Aside0.mk (hbox); have n16_ := Aside0.mk ((by rw [hg]; exact (below_size (by repeat (first | (with_reducible first | exact HB.out | apply below_alloc | apply pw_below_drewN | apply below_drew1 | refine below_set ?_ GE198.out | refine below_set ?_ GE199.out | refine below_set ?_ GE221.out | refine below_set ?_ GE228.out) | exact HB.out))) : w.heap.size ≤ gb235)); have n17_ := Aside0.mk ((by rw [hg]; exact (below_size (by repeat (first | (with_reducible first | exact HB.out | apply below_alloc | apply pw_below_drewN | apply below_drew1 | refine below_set ?_ GE198.out | refine below_set ?_ GE199.out | refine below_set ?_ GE221.out | refine below_set ?_ GE228.out) | exact HB.out))) : w.heap.size ≤ gb235)); have n18_ := Aside0.mk ((by rw [hg]; exact Nat.ne_of_lt (blk_lt (g := gb198) (o := .cells #[.slice A0_0 l0_0.length c0_0, .slice A0_1 l0_1.length c0_1] 37 (0, 0)) (by (with_reducible repeat (first | refine blk_drewN ?_ _ | refine blk_drew ?_ | refine blk_alloc ?_ _)); exact BK198.out)) : gb198 ≠ gb235)); have n19_ := Aside0.mk ((by rw [hg]; exact Nat.ne_of_gt (blk_lt (g := gb198) (o := .cells #[.slice A0_0 l0_0.length c0_0, .slice A0_1 l0_1.length c0_1] 37 (0, 0)) (by (with_reducible repeat (first | refine blk_drewN ?_ _ | refine blk_drew ?_ | refine blk_alloc ?_ _)); exact BK198.out)) : gb235 ≠ gb198)); have n20_ := Aside0.mk ((by rw [hg]; exact Nat.ne_of_lt (blk_lt (g := gb199) (o := .cells #[.slice A1_0 l1_0.length c1_0, .slice A1_1 l1_1.length c1_1] 37 (0, 0)) (by (with_reducible repeat (first | refine blk_drewN ?_ _ | refine blk_drew ?_ | refine blk_alloc ?_ _)); exact BK199.out)) : gb199 ≠ gb235)); have n21_ := Aside0.mk ((by rw [hg]; exact Nat.ne_of_gt (blk_lt (g := gb199) (o := .cells #[.slice A1_0 l1_0.length c1_0, .slice A1_1 l1_1.length c1_1] 37 (0, 0)) (by (with_reducible repeat (first | refine blk_drewN ?_ _ | refine blk_drew ?_ | refine blk_alloc ?_ _)); exact BK199.out)) : gb235 ≠ gb199)); have n22_ := Aside0.mk ((by rw [hg]; exact Nat.ne_of_lt (blk_lt (g := gb221) (o := .cells #[.slice Ao43 t214.length co43, .slice Ao45 t217.length co45] 26 (0, 0)) (by (with_reducible repeat (first | refine blk_drewN ?_ _ | refine blk_drew ?_ | refine blk_alloc ?_ _)); exact BK221.out)) : gb221 ≠ gb235)); have n23_ := Aside0.mk ((by rw [hg]; exact Nat.ne_of_gt (blk_lt (g := gb221) (o := .cells #[.slice Ao43 t214.length co43, .slice Ao45 t217.length co45] 26 (0, 0)) (by (with_reducible repeat (first | refine blk_drewN ?_ _ | refine blk_drew ?_ | refine blk_alloc ?_ _)); exact BK221.out)) : gb235 ≠ gb221)); have n24_ := Aside0.mk ((by rw [hg]; exact Nat.ne_of_lt (blk_lt (g := gb228) (o := .cells #[.slice Ao51 t222.length co51, .slice Ao56 t225.length co56] 26 (0, 0)) (by (with_reducible repeat (first | refine blk_drewN ?_ _ | refine blk_drew ?_ | refine blk_alloc ?_ _)); exact BK228.out)) : gb228 ≠ gb235)); have n25_ := Aside0.mk ((by rw [hg]; exact Nat.ne_of_gt (blk_lt (g := gb228) (o := .cells #[.slice Ao51 t222.length co51, .slice Ao56 t225.length co56] 26 (0, 0)) (by (with_reducible repeat (first | refine blk_drewN ?_ _ | refine blk_drew ?_ | refine blk_alloc ?_ _)); exact BK228.out)) : gb235 ≠ gb228)); clear HO204; clear HO207; clear HO210; clear HO213; clear HO216; clear HO219; clear HO224; clear HO227; clear HO231; clear HO234; clear BK198; clear BK199; clear BK221; clear BK228; clear HB; have HO204 := n0_; have HO207 := n1_; have HO210 := n2_; have HO213 := n3_; have HO216 := n4_; have HO219 := n5_; have HO224 := n6_; have HO227 := n7_; have HO231 := n8_; have HO234 := n9_; have BK198 := n10_; have BK199 := n11_; have BK221 := n12_; have BK228 := n13_; have HB := n14_; have BK235 := n15_; have GW235 := n16_; have GE235 := n17_; have NB198_235 := n18_; have NB235_198 := n19_; have NB199_235 := n20_; have NB235_199 := n21_; have NB221_235 := n22_; have NB235_221 := n23_; have NB228_235 := n24_; have NB235_228 := n25_; clear n0_ n1_ n2_ n3_ n4_ n5_ n6_ n7_ n8_ n9_ n10_ n11_ n12_ n13_ n14_ n15_ n16_ n17_ n18_ n19_ n20_ n21_ n22_ n23_ n24_ n25_; clear hb hbox hg; obtain ⟨Ao61, co61, eo61⟩ := Kd.R_slice HO231.out; subst eo61; have hnb62 := NB235_198.out; have hnc62 := NB198_235.out; have hnb63 := NB235_199.out; have hnc63 := NB199_235.out; have hnb64 := NB235_221.out; have hnc64 := NB221_235.out; have hnb65 := NB235_228.out; have hnc65 := NB228_235.out; have hcz66_0 : w60.cell? ⟨gb235, 0, none⟩ = some (.slice none 0 0) := (blk_cell BK235.out 0).trans rfl; have hcz66_1 : w60.cell? ⟨gb235, 1, none⟩ = some (.slice none 0 0) := (blk_cell BK235.out 1).trans rfl; have hfz66_0 := blk_frozen BK235.out 0; have hfz66_1 := blk_frozen BK235.out 1; obtain ⟨Ao67, co67, eo67⟩ := Kd.R_slice HO234.out; subst eo67; have hcz68_0 : w60.cell? ⟨gb228, 0, none⟩ = some (.slice Ao51 t222.length co51) := (blk_cell BK228.out 0).trans rfl; have hcz68_1 : w60.cell? ⟨gb228, 1, none⟩ = some (.slice Ao56 t225.length co56) := (blk_cell BK228.out 1).trans rfl; have hfz68_0 := blk_frozen BK228.out 0; have hfz68_1 := blk_frozen BK228.out 1) | ((with_reducible refine gate_callee (f := 64) rfl ?_); refine goesL_ (some 42) rfl rfl Try.func64 (by kernel_rfl) rfl #[.agg #[.slice Ao51 t222.length co51, .slice Ao56 t225.length co56], .agg #[.slice Ao61 t229.length co61, .slice Ao67 t232.length co67]] rfl (by (try simp only [List.map_toArray, List.map_cons, List.map_nil]); first | done | rfl | (simp only [List.length_drop, List.length_take]; rfl)) ?_; (with_reducible refine (impl_Reshape.calls k _ _ t222 _ _ t225 _ _ t229 _ _ t232 t236 t239 t242 _ ?side1 ?side2 ?side3 ?side4 ?side5 ?side6 ?side7 ?side8 A24.out).mono ?_); (case side1 => refine (Kd.R_reads' (e := 3) (base := w.heap.size) (ok := fun k_ => ((((((((some k_ ≠ (.slice Ao56 t225.length co56 : Value).ownBlock ∧ some k_ ≠ (v203 : Value).ownBlock) ∧ some k_ ≠ (v206 : Value).ownBlock) ∧ some k_ ≠ (v209 : Value).ownBlock) ∧ some k_ ≠ (v212 : Value).ownBlock) ∧ some k_ ≠ (.slice Ao43 t214.length co43 : Value).ownBlock) ∧ some k_ ≠ (.slice Ao45 t217.length co45 : Value).ownBlock) ∧ some k_ ≠ (.slice Ao61 t229.length co61 : Value).ownBlock) ∧ some k_ ≠ (.slice Ao67 t232.length co67 : Value).ownBlock)) (n := t222.length) (c := co51) ?_).2.2; exact (by (with_reducible repeat (first | apply Kd.R_alloc | apply Kd.R_drewN | apply Kd.R_drew)); exact (Kd.R_mono (Kd.R_far (p := ⟨gb235, 1, none⟩) (Kd.R_far (p := ⟨gb235, 0, none⟩) (Kd.R_types HO224.out BK235.out (by decide)) (fun _ hk => hk.2) (.slice Ao61 t229.length co61)) (fun _ hk => hk.2) (.slice Ao67 t232.length co67)) (fun _ h_ => h_.1)))); (case side2 => exact (Kd.R_reads' HO224.out).2.1); (case side3 => refine (Kd.R_reads' (e := 3) (base := w.heap.size) (ok := fun k_ => ((((((((some k_ ≠ (.slice Ao51 t222.length co51 : Value).ownBlock ∧ some k_ ≠ (v203 : Value).ownBlock) ∧ some k_ ≠ (v206 : Value).ownBlock) ∧ some k_ ≠ (v209 : Value).ownBlock) ∧ some k_ ≠ (v212 : Value).ownBlock) ∧ some k_ ≠ (.slice Ao43 t214.length co43 : Value).ownBlock) ∧ some k_ ≠ (.slice Ao45 t217.length co45 : Value).ownBlock) ∧ some k_ ≠ (.slice Ao61 t229.length co61 : Value).ownBlock) ∧ some k_ ≠ (.slice Ao67 t232.length co67 : Value).ownBlock)) (n := t225.length) (c := co56) ?_).2.2; exact (by (with_reducible repeat (first | apply Kd.R_alloc | apply Kd.R_drewN | apply Kd.R_drew)); exact (Kd.R_mono (Kd.R_far (p := ⟨gb235, 1, none⟩) (Kd.R_far (p := ⟨gb235, 0, none⟩) (Kd.R_types HO227.out BK235.out (by decide)) (fun _ hk => hk.2) (.slice Ao61 t229.length co61)) (fun _ hk => hk.2) (.slice Ao67 t232.length co67)) (fun _ h_ => h_.1)))); (case side4 => exact (Kd.R_reads' HO227.out).2.1); (case side5 => refine (Kd.R_reads' (e := 3) (base := w.heap.size) (ok := fun k_ => ((((((((some k_ ≠ (.slice Ao67 t232.length co67 : Value).ownBlock ∧ some k_ ≠ (v203 : Value).ownBlock) ∧ some k_ ≠ (v206 : Value).ownBlock) ∧ some k_ ≠ (v209 : Value).ownBlock) ∧ some k_ ≠ (v212 : Value).ownBlock) ∧ some k_ ≠ (.slice Ao43 t214.length co43 : Value).ownBlock) ∧ some k_ ≠ (.slice Ao45 t217.length co45 : Value).ownBlock) ∧ some k_ ≠ (.slice Ao51 t222.length co51 : Value).ownBlock) ∧ some k_ ≠ (.slice Ao56 t225.length co56 : Value).ownBlock)) (n := t229.length) (c := co61) ?_).2.2; exact (by (with_reducible repeat (first | apply Kd.R_alloc | apply Kd.R_drewN | apply Kd.R_drew)); exact (Kd.R_mono (Kd.R_far (p := ⟨gb235, 1, none⟩) (Kd.R_far (p := ⟨gb235, 0, none⟩) (Kd.R_types HO231.out BK235.out (by decide)) (fun _ hk => hk.2) (.slice Ao61 t229.length co61)) (fun _ hk => hk.2) (.slice Ao67 t232.length co67)) (fun _ h_ => h_.1)))); (case side6 => exact (Kd.R_reads' HO231.out).2.1); (case side7 => refine (Kd.R_reads' (e := 3) (base := w.heap.size) (ok := fun k_ => ((((((((some k_ ≠ (.slice Ao61 t229.length co61 : Value).ownBlock ∧ some k_ ≠ (v203 : Value).ownBlock) ∧ some k_ ≠ (v206 : Value).ownBlock) ∧ some k_ ≠ (v209 : Value).ownBlock) ∧ some k_ ≠ (v212 : Value).ownBlock) ∧ some k_ ≠ (.slice Ao43 t214.length co43 : Value).ownBlock) ∧ some k_ ≠ (.slice Ao45 t217.length co45 : Value).ownBlock) ∧ some k_ ≠ (.slice Ao51 t222.length co51 : Value).ownBlock) ∧ some k_ ≠ (.slice Ao56 t225.length co56 : Value).ownBlock)) (n := t232.length) (c := co67) ?_).2.2; exact (by (with_reducible repeat (first | apply Kd.R_alloc | apply Kd.R_drewN | apply Kd.R_drew)); exact (Kd.R_mono (Kd.R_far (p := ⟨gb235, 1, none⟩) (Kd.R_far (p := ⟨gb235, 0, none⟩) (Kd.R_types HO234.out BK235.out (by decide)) (fun _ hk => hk.2) (.slice Ao61 t229.length co61)) (fun _ hk => hk.2) (.slice Ao67 t232.length co67)) (fun _ h_ => h_.1)))); (case side8 => exact (Kd.R_reads' HO234.out).2.1); rintro e w69 ⟨v237, v240, rfl, ho0, ho1, hb⟩; refine ⟨_, rfl, ?_⟩; have n0_ := Aside0.mk (Kd.R_mono (Kd.R_told (Kd.R_told (Kd.R_old (by (with_reducible repeat (first | apply Kd.R_alloc | apply Kd.R_drewN | apply Kd.R_drew)); exact (Kd.R_mono (Kd.R_far (p := ⟨gb235, 1, none⟩) (Kd.R_far (p := ⟨gb235, 0, none⟩) (Kd.R_types HO204.out BK235.out (by decide)) (fun _ hk => hk.2) (.slice Ao61 t229.length co61)) (fun _ hk => hk.2) (.slice Ao67 t232.length co67)) (fun _ h_ => h_.1))) hb) (Kd.R_base ho0)) (Kd.R_base ho1)) (fun _ h_ => h_.1)); have n1_ := Aside0.mk (Kd.R_mono (Kd.R_told (Kd.R_told (Kd.R_old (by (with_reducible repeat (first | apply Kd.R_alloc | apply Kd.R_drewN | apply Kd.R_drew)); exact (Kd.R_mono (Kd.R_far (p := ⟨gb235, 1, none⟩) (Kd.R_far (p := ⟨gb235, 0, none⟩) (Kd.R_types HO207.out BK235.out (by decide)) (fun _ hk => hk.2) (.slice Ao61 t229.length co61)) (fun _ hk => hk.2) (.slice Ao67 t232.length co67)) (fun _ h_ => h_.1))) hb) (Kd.R_base ho0)) (Kd.R_base ho1)) (fun _ h_ => h_.1)); have n2_ := Aside0.mk (Kd.R_mono (Kd.R_told (Kd.R_told (Kd.R_old (by (with_reducible repeat (first | apply Kd.R_alloc | apply Kd.R_drewN | apply Kd.R_drew)); exact (Kd.R_mono (Kd.R_far (p := ⟨gb235, 1, none⟩) (Kd.R_far (p := ⟨gb235, 0, none⟩) (Kd.R_types HO210.out BK235.out (by decide)) (fun _ hk => hk.2) (.slice Ao61 t229.length co61)) (fun _ hk => hk.2) (.slice Ao67 t232.length co67)) (fun _ h_ => h_.1))) hb) (Kd.R_base ho0)) (Kd.R_base ho1)) (fun _ h_ => h_.1)); have n3_ := Aside0.mk (Kd.R_mono (Kd.R_told (Kd.R_told (Kd.R_old (by (with_reducible repeat (first | apply Kd.R_alloc | apply Kd.R_drewN | apply Kd.R_drew)); exact (Kd.R_mono (Kd.R_far (p := ⟨gb235, 1, none⟩) (Kd.R_far (p := ⟨gb235, 0, none⟩) (Kd.R_types HO213.out BK235.out (by decide)) (fun _ hk => hk.2) (.slice Ao61 t229.length co61)) (fun _ hk => hk.2) (.slice Ao67 t232.length co67)) (fun _ h_ => h_.1))) hb) (Kd.R_base ho0)) (Kd.R_base ho1)) (fun _ h_ => h_.1)); have n4_ := Aside0.mk (Kd.R_mono (Kd.R_told (Kd.R_told (Kd.R_old (by (with_reducible repeat (first | apply Kd.R_alloc | apply Kd.R_drewN | apply Kd.R_drew)); exact (Kd.R_mono (Kd.R_far (p := ⟨gb235, 1, none⟩) (Kd.R_far (p := ⟨gb235, 0, none⟩) (Kd.R_types HO216.out BK235.out (by decide)) (fun _ hk => hk.2) (.slice Ao61 t229.length co61)) (fun _ hk => hk.2) (.slice Ao67 t232.length co67)) (fun _ h_ => h_.1))) hb) (Kd.R_base ho0)) (Kd.R_base ho1)) (fun _ h_ => h_.1)); have n5_ := Aside0.mk (Kd.R_mono (Kd.R_told (Kd.R_told (Kd.R_old (by (with_reducible repeat (first | apply Kd.R_alloc | apply Kd.R_drewN | apply Kd.R_drew)); exact (Kd.R_mono (Kd.R_far (p := ⟨gb235, 1, none⟩) (Kd.R_far (p := ⟨gb235, 0, none⟩) (Kd.R_types HO219.out BK235.out (by decide)) (fun _ hk => hk.2) (.slice Ao61 t229.length co61)) (fun _ hk => hk.2) (.slice Ao67 t232.length co67)) (fun _ h_ => h_.1))) hb) (Kd.R_base ho0)) (Kd.R_base ho1)) (fun _ h_ => h_.1)); have n6_ := Aside0.mk (Kd.R_mono (Kd.R_told (Kd.R_told (Kd.R_old (by (with_reducible repeat (first | apply Kd.R_alloc | apply Kd.R_drewN | apply Kd.R_drew)); exact (Kd.R_mono (Kd.R_far (p := ⟨gb235, 1, none⟩) (Kd.R_far (p := ⟨gb235, 0, none⟩) (Kd.R_types HO224.out BK235.out (by decide)) (fun _ hk => hk.2) (.slice Ao61 t229.length co61)) (fun _ hk => hk.2) (.slice Ao67 t232.length co67)) (fun _ h_ => h_.1))) hb) (Kd.R_base ho0)) (Kd.R_base ho1)) (fun _ h_ => h_.1)); have n7_ := Aside0.mk (Kd.R_mono (Kd.R_told (Kd.R_told (Kd.R_old (by (with_reducible repeat (first | apply Kd.R_alloc | apply Kd.R_drewN | apply Kd.R_drew)); exact (Kd.R_mono (Kd.R_far (p := ⟨gb235, 1, none⟩) (Kd.R_far (p := ⟨gb235, 0, none⟩) (Kd.R_types HO227.out BK235.out (by decide)) (fun _ hk => hk.2) (.slice Ao61 t229.length co61)) (fun _ hk => hk.2) (.slice Ao67 t232.length co67)) (fun _ h_ => h_.1))) hb) (Kd.R_base ho0)) (Kd.R_base ho1)) (fun _ h_ => h_.1)); have n8_ := Aside0.mk (Kd.R_mono (Kd.R_told (Kd.R_told (Kd.R_old (by (with_reducible repeat (first | apply Kd.R_alloc | apply Kd.R_drewN | apply Kd.R_drew)); exact (Kd.R_mono (Kd.R_far (p := ⟨gb235, 1, none⟩) (Kd.R_far (p := ⟨gb235, 0, none⟩) (Kd.R_types HO231.out BK235.out (by decide)) (fun _ hk => hk.2) (.slice Ao61 t229.length co61)) (fun _ hk => hk.2) (.slice Ao67 t232.length co67)) (fun _ h_ => h_.1))) hb) (Kd.R_base ho0)) (Kd.R_base ho1)) (fun _ h_ => h_.1)); have n9_ := Aside0.mk (Kd.R_mono (Kd.R_told (Kd.R_told (Kd.R_old (by (with_reducible repeat (first | apply Kd.R_alloc | apply Kd.R_drewN | apply Kd.R_drew)); exact (Kd.R_mono (Kd.R_far (p := ⟨gb235, 1, none⟩) (Kd.R_far (p := ⟨gb235, 0, none⟩) (Kd.R_types HO234.out BK235.out (by decide)) (fun _ hk => hk.2) (.slice Ao61 t229.length co61)) (fun _ hk => hk.2) (.slice Ao67 t232.length co67)) (fun _ h_ => h_.1))) hb) (Kd.R_base ho0)) (Kd.R_base ho1)) (fun _ h_ => h_.1)); have n10_ := Aside0.mk (Kd.R_lower (Kd.R_new' (Kd.R_new' (Kd.R_new' (Kd.R_new' (Kd.R_new' (Kd.R_new' (Kd.R_new' (Kd.R_new' (Kd.R_new' (Kd.R_new' ho0 (Kd.R_lt (by (with_reducible repeat (first | apply Kd.R_alloc | apply Kd.R_drewN | apply Kd.R_drew)); exact (Kd.R_mono (Kd.R_far (p := ⟨gb235, 1, none⟩) (Kd.R_far (p := ⟨gb235, 0, none⟩) (Kd.R_types HO204.out BK235.out (by decide)) (fun _ hk => hk.2) (.slice Ao61 t229.length co61)) (fun _ hk => hk.2) (.slice Ao67 t232.length co67)) (fun _ h_ => h_.1))))) (Kd.R_lt (by (with_reducible repeat (first | apply Kd.R_alloc | apply Kd.R_drewN | apply Kd.R_drew)); exact (Kd.R_mono (Kd.R_far (p := ⟨gb235, 1, none⟩) (Kd.R_far (p := ⟨gb235, 0, none⟩) (Kd.R_types HO207.out BK235.out (by decide)) (fun _ hk => hk.2) (.slice Ao61 t229.length co61)) (fun _ hk => hk.2) (.slice Ao67 t232.length co67)) (fun _ h_ => h_.1))))) (Kd.R_lt (by (with_reducible repeat (first | apply Kd.R_alloc | apply Kd.R_drewN | apply Kd.R_drew)); exact (Kd.R_mono (Kd.R_far (p := ⟨gb235, 1, none⟩) (Kd.R_far (p := ⟨gb235, 0, none⟩) (Kd.R_types HO210.out BK235.out (by decide)) (fun _ hk => hk.2) (.slice Ao61 t229.length co61)) (fun _ hk => hk.2) (.slice Ao67 t232.length co67)) (fun _ h_ => h_.1))))) (Kd.R_lt (by (with_reducible repeat (first | apply Kd.R_alloc | apply Kd.R_drewN | apply Kd.R_drew)); exact (Kd.R_mono (Kd.R_far (p := ⟨gb235, 1, none⟩) (Kd.R_far (p := ⟨gb235, 0, none⟩) (Kd.R_types HO213.out BK235.out (by decide)) (fun _ hk => hk.2) (.slice Ao61 t229.length co61)) (fun _ hk => hk.2) (.slice Ao67 t232.length co67)) (fun _ h_ => h_.1))))) (Kd.R_lt (by (with_reducible repeat (first | apply Kd.R_alloc | apply Kd.R_drewN | apply Kd.R_drew)); exact (Kd.R_mono (Kd.R_far (p := ⟨gb235, 1, none⟩) (Kd.R_far (p := ⟨gb235, 0, none⟩) (Kd.R_types HO216.out BK235.out (by decide)) (fun _ hk => hk.2) (.slice Ao61 t229.length co61)) (fun _ hk => hk.2) (.slice Ao67 t232.length co67)) (fun _ h_ => h_.1))))) (Kd.R_lt (by (with_reducible repeat (first | apply Kd.R_alloc | apply Kd.R_drewN | apply Kd.R_drew)); exact (Kd.R_mono (Kd.R_far (p := ⟨gb235, 1, none⟩) (Kd.R_far (p := ⟨gb235, 0, none⟩) (Kd.R_types HO219.out BK235.out (by decide)) (fun _ hk => hk.2) (.slice Ao61 t229.length co61)) (fun _ hk => hk.2) (.slice Ao67 t232.length co67)) (fun _ h_ => h_.1))))) (Kd.R_lt (by (with_reducible repeat (first | apply Kd.R_alloc | apply Kd.R_drewN | apply Kd.R_drew)); exact (Kd.R_mono (Kd.R_far (p := ⟨gb235, 1, none⟩) (Kd.R_far (p := ⟨gb235, 0, none⟩) (Kd.R_types HO224.out BK235.out (by decide)) (fun _ hk => hk.2) (.slice Ao61 t229.length co61)) (fun _ hk => hk.2) (.slice Ao67 t232.length co67)) (fun _ h_ => h_.1))))) (Kd.R_lt (by (with_reducible repeat (first | apply Kd.R_alloc | apply Kd.R_drewN | apply Kd.R_drew)); exact (Kd.R_mono (Kd.R_far (p := ⟨gb235, 1, none⟩) (Kd.R_far (p := ⟨gb235, 0, none⟩) (Kd.R_types HO227.out BK235.out (by decide)) (fun _ hk => hk.2) (.slice Ao61 t229.length co61)) (fun _ hk => hk.2) (.slice Ao67 t232.length co67)) (fun _ h_ => h_.1))))) (Kd.R_lt (by (with_reducible repeat (first | apply Kd.R_alloc | apply Kd.R_drewN | apply Kd.R_drew)); exact (Kd.R_mono (Kd.R_far (p := ⟨gb235, 1, none⟩) (Kd.R_far (p := ⟨gb235, 0, none⟩) (Kd.R_types HO231.out BK235.out (by decide)) (fun _ hk => hk.2) (.slice Ao61 t229.length co61)) (fun _ hk => hk.2) (.slice Ao67 t232.length co67)) (fun _ h_ => h_.1))))) (Kd.R_lt (by (with_reducible repeat (first | apply Kd.R_alloc | apply Kd.R_drewN | apply Kd.R_drew)); exact (Kd.R_mono (Kd.R_far (p := ⟨gb235, 1, none⟩) (Kd.R_far (p := ⟨gb235, 0, none⟩) (Kd.R_types HO234.out BK235.out (by decide)) (fun _ hk => hk.2) (.slice Ao61 t229.length co61)) (fun _ hk => hk.2) (.slice Ao67 t232.length co67)) (fun _ h_ => h_.1))))) (below_size (by repeat (first | (with_reducible first | exact HB.out | apply below_alloc | apply pw_below_drewN | apply below_drew1 | refine below_set ?_ GE198.out | refine below_set ?_ GE199.out | refine below_set ?_ GE221.out | refine below_set ?_ GE228.out | refine below_set ?_ GE235.out) | exact HB.out)))); have n11_ := Aside0.mk (Kd.R_lower (Kd.R_new' (Kd.R_new' (Kd.R_new' (Kd.R_new' (Kd.R_new' (Kd.R_new' (Kd.R_new' (Kd.R_new' (Kd.R_new' (Kd.R_new' ho1 (Kd.R_lt (by (with_reducible repeat (first | apply Kd.R_alloc | apply Kd.R_drewN | apply Kd.R_drew)); exact (Kd.R_mono (Kd.R_far (p := ⟨gb235, 1, none⟩) (Kd.R_far (p := ⟨gb235, 0, none⟩) (Kd.R_types HO204.out BK235.out (by decide)) (fun _ hk => hk.2) (.slice Ao61 t229.length co61)) (fun _ hk => hk.2) (.slice Ao67 t232.length co67)) (fun _ h_ => h_.1))))) (Kd.R_lt (by (with_reducible repeat (first | apply Kd.R_alloc | apply Kd.R_drewN | apply Kd.R_drew)); exact (Kd.R_mono (Kd.R_far (p := ⟨gb235, 1, none⟩) (Kd.R_far (p := ⟨gb235, 0, none⟩) (Kd.R_types HO207.out BK235.out (by decide)) (fun _ hk => hk.2) (.slice Ao61 t229.length co61)) (fun _ hk => hk.2) (.slice Ao67 t232.length co67)) (fun _ h_ => h_.1))))) (Kd.R_lt (by (with_reducible repeat (first | apply Kd.R_alloc | apply Kd.R_drewN | apply Kd.R_drew)); exact (Kd.R_mono (Kd.R_far (p := ⟨gb235, 1, none⟩) (Kd.R_far (p := ⟨gb235, 0, none⟩) (Kd.R_types HO210.out BK235.out (by decide)) (fun _ hk => hk.2) (.slice Ao61 t229.length co61)) (fun _ hk => hk.2) (.slice Ao67 t232.length co67)) (fun _ h_ => h_.1))))) (Kd.R_lt (by (with_reducible repeat (first | apply Kd.R_alloc | apply Kd.R_drewN | apply Kd.R_drew)); exact (Kd.R_mono (Kd.R_far (p := ⟨gb235, 1, none⟩) (Kd.R_far (p := ⟨gb235, 0, none⟩) (Kd.R_types HO213.out BK235.out (by decide)) (fun _ hk => hk.2) (.slice Ao61 t229.length co61)) (fun _ hk => hk.2) (.slice Ao67 t232.length co67)) (fun _ h_ => h_.1))))) (Kd.R_lt (by (with_reducible repeat (first | apply Kd.R_alloc | apply Kd.R_drewN | apply Kd.R_drew)); exact (Kd.R_mono (Kd.R_far (p := ⟨gb235, 1, none⟩) (Kd.R_far (p := ⟨gb235, 0, none⟩) (Kd.R_types HO216.out BK235.out (by decide)) (fun _ hk => hk.2) (.slice Ao61 t229.length co61)) (fun _ hk => hk.2) (.slice Ao67 t232.length co67)) (fun _ h_ => h_.1))))) (Kd.R_lt (by (with_reducible repeat (first | apply Kd.R_alloc | apply Kd.R_drewN | apply Kd.R_drew)); exact (Kd.R_mono (Kd.R_far (p := ⟨gb235, 1, none⟩) (Kd.R_far (p := ⟨gb235, 0, none⟩) (Kd.R_types HO219.out BK235.out (by decide)) (fun _ hk => hk.2) (.slice Ao61 t229.length co61)) (fun _ hk => hk.2) (.slice Ao67 t232.length co67)) (fun _ h_ => h_.1))))) (Kd.R_lt (by (with_reducible repeat (first | apply Kd.R_alloc | apply Kd.R_drewN | apply Kd.R_drew)); exact (Kd.R_mono (Kd.R_far (p := ⟨gb235, 1, none⟩) (Kd.R_far (p := ⟨gb235, 0, none⟩) (Kd.R_types HO224.out BK235.out (by decide)) (fun _ hk => hk.2) (.slice Ao61 t229.length co61)) (fun _ hk => hk.2) (.slice Ao67 t232.length co67)) (fun _ h_ => h_.1))))) (Kd.R_lt (by (with_reducible repeat (first | apply Kd.R_alloc | apply Kd.R_drewN | apply Kd.R_drew)); exact (Kd.R_mono (Kd.R_far (p := ⟨gb235, 1, none⟩) (Kd.R_far (p := ⟨gb235, 0, none⟩) (Kd.R_types HO227.out BK235.out (by decide)) (fun _ hk => hk.2) (.slice Ao61 t229.length co61)) (fun _ hk => hk.2) (.slice Ao67 t232.length co67)) (fun _ h_ => h_.1))))) (Kd.R_lt (by (with_reducible repeat (first | apply Kd.R_alloc | apply Kd.R_drewN | apply Kd.R_drew)); exact (Kd.R_mono (Kd.R_far (p := ⟨gb235, 1, none⟩) (Kd.R_far (p := ⟨gb235, 0, none⟩) (Kd.R_types HO231.out BK235.out (by decide)) (fun _ hk => hk.2) (.slice Ao61 t229.length co61)) (fun _ hk => hk.2) (.slice Ao67 t232.length co67)) (fun _ h_ => h_.1))))) (Kd.R_lt (by (with_reducible repeat (first | apply Kd.R_alloc | apply Kd.R_drewN | apply Kd.R_drew)); exact (Kd.R_mono (Kd.R_far (p := ⟨gb235, 1, none⟩) (Kd.R_far (p := ⟨gb235, 0, none⟩) (Kd.R_types HO234.out BK235.out (by decide)) (fun _ hk => hk.2) (.slice Ao61 t229.length co61)) (fun _ hk => hk.2) (.slice Ao67 t232.length co67)) (fun _ h_ => h_.1))))) (below_size (by repeat (first | (with_reducible first | exact HB.out | apply below_alloc | apply pw_below_drewN | apply below_drew1 | refine below_set ?_ GE198.out | refine below_set ?_ GE199.out | refine below_set ?_ GE221.out | refine below_set ?_ GE228.out | refine below_set ?_ GE235.out) | exact HB.out)))); have n12_ := Aside0.mk (blk_below (g := gb198) (o := .cells #[.slice A0_0 l0_0.length c0_0, .slice A0_1 l0_1.length c0_1] 37 (0, 0)) (by (with_reducible repeat (first | refine blk_drewN ?_ _ | refine blk_drew ?_ | refine blk_alloc ?_ _)); refine blk_far ?_ NB198_235.out _; (with_reducible repeat (first | refine blk_drewN ?_ _ | refine blk_drew ?_ | refine blk_alloc ?_ _)); refine blk_far ?_ NB198_235.out _; (with_reducible repeat (first | refine blk_drewN ?_ _ | refine blk_drew ?_ | refine blk_alloc ?_ _)); exact BK198.out) hb); have n13_ := Aside0.mk (blk_below (g := gb199) (o := .cells #[.slice A1_0 l1_0.length c1_0, .slice A1_1 l1_1.length c1_1] 37 (0, 0)) (by (with_reducible repeat (first | refine blk_drewN ?_ _ | refine blk_drew ?_ | refine blk_alloc ?_ _)); refine blk_far ?_ NB199_235.out _; (with_reducible repeat (first | refine blk_drewN ?_ _ | refine blk_drew ?_ | refine blk_alloc ?_ _)); refine blk_far ?_ NB199_235.out _; (with_reducible repeat (first | refine blk_drewN ?_ _ | refine blk_drew ?_ | refine blk_alloc ?_ _)); exact BK199.out) hb); have n14_ := Aside0.mk (blk_below (g := gb221) (o := .cells #[.slice Ao43 t214.length co43, .slice Ao45 t217.length co45] 26 (0, 0)) (by (with_reducible repeat (first | refine blk_drewN ?_ _ | refine blk_drew ?_ | refine blk_alloc ?_ _)); refine blk_far ?_ NB221_235.out _; (with_reducible repeat (first | refine blk_drewN ?_ _ | refine blk_drew ?_ | refine blk_alloc ?_ _)); refine blk_far ?_ NB221_235.out _; (with_reducible repeat (first | refine blk_drewN ?_ _ | refine blk_drew ?_ | refine blk_alloc ?_ _)); exact BK221.out) hb); have n15_ := Aside0.mk (blk_below (g := gb228) (o := .cells #[.slice Ao51 t222.length co51, .slice Ao56 t225.length co56] 26 (0, 0)) (by (with_reducible repeat (first | refine blk_drewN ?_ _ | refine blk_drew ?_ | refine blk_alloc ?_ _)); refine blk_far ?_ NB228_235.out _; (with_reducible repeat (first | refine blk_drewN ?_ _ | refine blk_drew ?_ | refine blk_alloc ?_ _)); refine blk_far ?_ NB228_235.out _; (with_reducible repeat (first | refine blk_drewN ?_ _ | refine blk_drew ?_ | refine blk_alloc ?_ _)); exact BK228.out) hb); have n16_ := Aside0.mk (blk_below (g := gb235) (o := .cells #[.slice Ao61 t229.length co61, .slice Ao67 t232.length co67] 26 (0, 0)) (by (with_reducible repeat (first | refine blk_drewN ?_ _ | refine blk_drew ?_ | refine blk_alloc ?_ _)); refine blk_put (cs := #[.slice Ao61 t229.length co61, .slice none 0 0]) ?_ 1 _ rfl; (with_reducible repeat (first | refine blk_drewN ?_ _ | refine blk_drew ?_ | refine blk_alloc ?_ _)); refine blk_put (cs := #[.slice none 0 0, .slice none 0 0]) ?_ 0 _ rfl; (with_reducible repeat (first | refine blk_drewN ?_ _ | refine blk_drew ?_ | refine blk_alloc ?_ _)); exact BK235.out) hb); have n17_ := Aside0.mk (below_step (by repeat (first | (with_reducible first | exact HB.out | apply below_alloc | apply pw_below_drewN | apply below_drew1 | refine below_set ?_ GE198.out | refine below_set ?_ GE199.out | refine below_set ?_ GE221.out | refine below_set ?_ GE228.out | refine below_set ?_ GE235.out) | exact HB.out)) hb); clear HO204; clear HO207; clear HO210; clear HO213; clear HO216; clear HO219; clear HO224; clear HO227; clear HO231; clear HO234; clear BK198; clear BK199; clear BK221; clear BK228; clear BK235; clear HB; have HO204 := n0_; have HO207 := n1_; have HO210 := n2_; have HO213 := n3_; have HO216 := n4_; have HO219 := n5_; have HO224 := n6_; have HO227 := n7_; have HO231 := n8_; have HO234 := n9_; have HO238 := n10_; have HO241 := n11_; have BK198 := n12_; have BK199 := n13_; have BK221 := n14_; have BK228 := n15_; have BK235 := n16_; have HB := n17_; clear n0_ n1_ n2_ n3_ n4_ n5_ n6_ n7_ n8_ n9_ n10_ n11_ n12_ n13_ n14_ n15_ n16_ n17_; (try clear hb); (try clear hb2); (try clear hk); (try clear hi); (try clear ho0); (try clear ho1)) | ((with_reducible refine gate_dst (N := 10) rfl ?_); refine box_event ?hg (N := 10) ?hd (cs := #[.slice none 0 0, .slice none 0 0]) (t := 26) ?hr ?_; (case hd => rfl); (case hg => rfl); (case hr => first | (go_simp; done) | (go_simp; rfl)); intro gb243 hg w70 hbox hb; have n0_ := Aside0.mk (Kd.R_below (by (with_reducible repeat (first | apply Kd.R_alloc | apply Kd.R_drewN | apply Kd.R_drew)); exact HO204.out) hb); have n1_ := Aside0.mk (Kd.R_below (by (with_reducible repeat (first | apply Kd.R_alloc | apply Kd.R_drewN | apply Kd.R_drew)); exact HO207.out) hb); have n2_ := Aside0.mk (Kd.R_below (by (with_reducible repeat (first | apply Kd.R_alloc | apply Kd.R_drewN | apply Kd.R_drew)); exact HO210.out) hb); have n3_ := Aside0.mk (Kd.R_below (by (with_reducible repeat (first | apply Kd.R_alloc | apply Kd.R_drewN | apply Kd.R_drew)); exact HO213.out) hb); have n4_ := Aside0.mk (Kd.R_below (by (with_reducible repeat (first | apply Kd.R_alloc | apply Kd.R_drewN | apply Kd.R_drew)); exact HO216.out) hb); have n5_ := Aside0.mk (Kd.R_below (by (with_reducible repeat (first | apply Kd.R_alloc | apply Kd.R_drewN | apply Kd.R_drew)); exact HO219.out) hb); have n6_ := Aside0.mk (Kd.R_below (by (with_reducible repeat (first | apply Kd.R_alloc | apply Kd.R_drewN | apply Kd.R_drew)); exact HO224.out) hb); have n7_ := Aside0.mk (Kd.R_below (by (with_reducible repeat (first | apply Kd.R_alloc | apply Kd.R_drewN | apply Kd.R_drew)); exact HO227.out) hb); have n8_ := Aside0.mk (Kd.R_below (by (with_reducible repeat (first | apply Kd.R_alloc | apply Kd.R_drewN | apply Kd.R_drew)); exact HO231.out) hb); have n9_ := Aside0.mk (Kd.R_below (by (with_reducible repeat (first | apply Kd.R_alloc | apply Kd.R_drewN | apply Kd.R_drew)); exact HO234.out) hb); have n10_ := Aside0.mk (Kd.R_below (by (with_reducible repeat (first | apply Kd.R_alloc | apply Kd.R_drewN | apply Kd.R_drew)); exact HO238.out) hb); have n11_ := Aside0.mk (Kd.R_below (by (with_reducible repeat (first | apply Kd.R_alloc | apply Kd.R_drewN | apply Kd.R_drew)); exact HO241.out) hb); have n12_ := Aside0.mk (blk_below (g := gb198) (o := .cells #[.slice A0_0 l0_0.length c0_0, .slice A0_1 l0_1.length c0_1] 37 (0, 0)) (by (with_reducible repeat (first | refine blk_drewN ?_ _ | refine blk_drew ?_ | refine blk_alloc ?_ _)); exact BK198.out) hb); have n13_ := Aside0.mk (blk_below (g := gb199) (o := .cells #[.slice A1_0 l1_0.length c1_0, .slice A1_1 l1_1.length c1_1] 37 (0, 0)) (by (with_reducible repeat (first | refine blk_drewN ?_ _ | refine blk_drew ?_ | refine blk_alloc ?_ _)); exact BK199.out) hb); have n14_ := Aside0.mk (blk_below (g := gb221) (o := .cells #[.slice Ao43 t214.length co43, .slice Ao45 t217.length co45] 26 (0, 0)) (by (with_reducible repeat (first | refine blk_drewN ?_ _ | refine blk_drew ?_ | refine blk_alloc ?_ _)); exact BK221.out) hb); have n15_ := Aside0.mk (blk_below (g := gb228) (o := .cells #[.slice Ao51 t222.length co51, .slice Ao56 t225.length co56] 26 (0, 0)) (by (with_reducible repeat (first | refine blk_drewN ?_ _ | refine blk_drew ?_ | refine blk_alloc ?_ _)); exact BK228.out) hb); have n16_ := Aside0.mk (blk_below (g := gb235) (o := .cells #[.slice Ao61 t229.length co61, .slice Ao67 t232.length co67] 26 (0, 0)) (by (with_reducible repeat (first | refine blk_drewN ?_ _ | refine blk_drew ?_ | refine blk_alloc ?_ _)); exact BK235.out) hb); have n17_ := Aside0.mk (below_step (by repeat (first | (with_reducible first | exact HB.out | apply below_alloc | apply pw_below_drewN | apply below_drew1 | refine below_set ?_ GE198.out | refine below_set ?_ GE199.out | refine below_set ?_ GE221.out | refine below_set ?_ GE228.out | refine below_set ?_ GE235.out) | exact HB.out)) hb); have n18_ := Aside0.mk (hbox); have n19_ := Aside0.mk ((by rw [hg]; exact (below_size (by repeat (first | (with_reducible first | exact HB.out | apply below_alloc | apply pw_below_drewN | apply below_drew1 | refine below_set ?_ GE198.out | refine below_set ?_ GE199.out | refine below_set ?_ GE221.out | refine below_set ?_ GE228.out | refine below_set ?_ GE235.out) | exact HB.out))) : w.heap.size ≤ gb243)); have n20_ := Aside0.mk ((by rw [hg]; exact (below_size (by repeat (first | (with_reducible first | exact HB.out | apply below_alloc | apply pw_below_drewN | apply below_drew1 | refine below_set ?_ GE198.out | refine below_set ?_ GE199.out | refine below_set ?_ GE221.out | refine below_set ?_ GE228.out | refine below_set ?_ GE235.out) | exact HB.out))) : w.heap.size ≤ gb243)); have n21_ := Aside0.mk ((by rw [hg]; exact Nat.ne_of_lt (blk_lt (g := gb198) (o := .cells #[.slice A0_0 l0_0.length c0_0, .slice A0_1 l0_1.length c0_1] 37 (0, 0)) (by (with_reducible repeat (first | refine blk_drewN ?_ _ | refine blk_drew ?_ | refine blk_alloc ?_ _)); exact BK198.out)) : gb198 ≠ gb243)); have n22_ := Aside0.mk ((by rw [hg]; exact Nat.ne_of_gt (blk_lt (g := gb198) (o := .cells #[.slice A0_0 l0_0.length c0_0, .slice A0_1 l0_1.length c0_1] 37 (0, 0)) (by (with_reducible repeat (first | refine blk_drewN ?_ _ | refine blk_drew ?_ | refine blk_alloc ?_ _)); exact BK198.out)) : gb243 ≠ gb198)); have n23_ := Aside0.mk ((by rw [hg]; exact Nat.ne_of_lt (blk_lt (g := gb199) (o := .cells #[.slice A1_0 l1_0.length c1_0, .slice A1_1 l1_1.length c1_1] 37 (0, 0)) (by (with_reducible repeat (first | refine blk_drewN ?_ _ | refine blk_drew ?_ | refine blk_alloc ?_ _)); exact BK199.out)) : gb199 ≠ gb243)); have n24_ := Aside0.mk ((by rw [hg]; exact Nat.ne_of_gt (blk_lt (g := gb199) (o := .cells #[.slice A1_0 l1_0.length c1_0, .slice A1_1 l1_1.length c1_1] 37 (0, 0)) (by (with_reducible repeat (first | refine blk_drewN ?_ _ | refine blk_drew ?_ | refine blk_alloc ?_ _)); exact BK199.out)) : gb243 ≠ gb199)); have n25_ := Aside0.mk ((by rw [hg]; exact Nat.ne_of_lt (blk_lt (g := gb221) (o := .cells #[.slice Ao43 t214.length co43, .slice Ao45 t217.length co45] 26 (0, 0)) (by (with_reducible repeat (first | refine blk_drewN ?_ _ | refine blk_drew ?_ | refine blk_alloc ?_ _)); exact BK221.out)) : gb221 ≠ gb243)); have n26_ := Aside0.mk ((by rw [hg]; exact Nat.ne_of_gt (blk_lt (g := gb221) (o := .cells #[.slice Ao43 t214.length co43, .slice Ao45 t217.length co45] 26 (0, 0)) (by (with_reducible repeat (first | refine blk_drewN ?_ _ | refine blk_drew ?_ | refine blk_alloc ?_ _)); exact BK221.out)) : gb243 ≠ gb221)); have n27_ := Aside0.mk ((by rw [hg]; exact Nat.ne_of_lt (blk_lt (g := gb228) (o := .cells #[.slice Ao51 t222.length co51, .slice Ao56 t225.length co56] 26 (0, 0)) (by (with_reducible repeat (first | refine blk_drewN ?_ _ | refine blk_drew ?_ | refine blk_alloc ?_ _)); exact BK228.out)) : gb228 ≠ gb243)); have n28_ := Aside0.mk ((by rw [hg]; exact Nat.ne_of_gt (blk_lt (g := gb228) (o := .cells #[.slice Ao51 t222.length co51, .slice Ao56 t225.length co56] 26 (0, 0)) (by (with_reducible repeat (first | refine blk_drewN ?_ _ | refine blk_drew ?_ | refine blk_alloc ?_ _)); exact BK228.out)) : gb243 ≠ gb228)); have n29_ := Aside0.mk ((by rw [hg]; exact Nat.ne_of_lt (blk_lt (g := gb235) (o := .cells #[.slice Ao61 t229.length co61, .slice Ao67 t232.length co67] 26 (0, 0)) (by (with_reducible repeat (first | refine blk_drewN ?_ _ | refine blk_drew ?_ | refine blk_alloc ?_ _)); exact BK235.out)) : gb235 ≠ gb243)); have n30_ := Aside0.mk ((by rw [hg]; exact Nat.ne_of_gt (blk_lt (g := gb235) (o := .cells #[.slice Ao61 t229.length co61, .slice Ao67 t232.length co67] 26 (0, 0)) (by (with_reducible repeat (first | refine blk_drewN ?_ _ | refine blk_drew ?_ | refine blk_alloc ?_ _)); exact BK235.out)) : gb243 ≠ gb235)); clear HO204; clear HO207; clear HO210; clear HO213; clear HO216; clear HO219; clear HO224; clear HO227; clear HO231; clear HO234; clear HO238; clear HO241; clear BK198; clear BK199; clear BK221; clear BK228; clear BK235; clear HB; have HO204 := n0_; have HO207 := n1_; have HO210 := n2_; have HO213 := n3_; have HO216 := n4_; have HO219 := n5_; have HO224 := n6_; have HO227 := n7_; have HO231 := n8_; have HO234 := n9_; have HO238 := n10_; have HO241 := n11_; have BK198 := n12_; have BK199 := n13_; have BK221 := n14_; have BK228 := n15_; have BK235 := n16_; have HB := n17_; have BK243 := n18_; have GW243 := n19_; have GE243 := n20_; have NB198_243 := n21_; have NB243_198 := n22_; have NB199_243 := n23_; have NB243_199 := n24_; have NB221_243 := n25_; have NB243_221 := n26_; have NB228_243 := n27_; have NB243_228 := n28_; have NB235_243 := n29_; have NB243_235 := n30_; clear n0_ n1_ n2_ n3_ n4_ n5_ n6_ n7_ n8_ n9_ n10_ n11_ n12_ n13_ n14_ n15_ n16_ n17_ n18_ n19_ n20_ n21_ n22_ n23_ n24_ n25_ n26_ n27_ n28_ n29_ n30_; clear hb hbox hg; obtain ⟨Ao71, co71, eo71⟩ := Kd.R_slice HO238.out; subst eo71; have hnb72 := NB243_198.out; have hnc72 := NB198_243.out; have hnb73 := NB243_199.out; have hnc73 := NB199_243.out; have hnb74 := NB243_221.out; have hnc74 := NB221_243.out; have hnb75 := NB243_228.out; have hnc75 := NB228_243.out; have hnb76 := NB243_235.out; have hnc76 := NB235_243.out; have hcz77_0 : w70.cell? ⟨gb243, 0, none⟩ = some (.slice none 0 0) := (blk_cell BK243.out 0).trans rfl; have hcz77_1 : w70.cell? ⟨gb243, 1, none⟩ = some (.slice none 0 0) := (blk_cell BK243.out 1).trans rfl; have hfz77_0 := blk_frozen BK243.out 0; have hfz77_1 := blk_frozen BK243.out 1; obtain ⟨Ao78, co78, eo78⟩ := Kd.R_slice HO241.out; subst eo78))
      (try simp only [Act.put, List.setIfInBounds_toArray, List.set_cons_zero, List.set_cons_succ])
      go_cut [53] (fun v53 wc => ∃ (kq : Nat) (x53_24 : Bool), v53 = .bool x53_24 ∧ Aside0 (laws_FnExactReshape.j0 kq t220 t242 x53_24 l0_0 l0_1 l1_0 l1_1 t214 t217 t222 t225 t229 t232 t236 t239 = some r) ∧ Aside0 (kq ≤ k) ∧ Aside0 (Kd.R (Kd.int .i64) 3 wc w.heap.size (fun k_ => some k_ ≠ ((.slice Ao45 t217.length co45) : Value).ownBlock ∧ some k_ ≠ ((.slice Ao51 t222.length co51) : Value).ownBlock ∧ some k_ ≠ ((.slice Ao56 t225.length co56) : Value).ownBlock ∧ some k_ ≠ ((.slice Ao61 t229.length co61) : Value).ownBlock ∧ some k_ ≠ ((.slice Ao67 t232.length co67) : Value).ownBlock ∧ some k_ ≠ ((.slice Ao71 t236.length co71) : Value).ownBlock ∧ some k_ ≠ ((.slice Ao78 t239.length co78) : Value).ownBlock) (.slice Ao43 t214.length co43) t214) ∧ Aside0 (Kd.R (Kd.int .i64) 3 wc w.heap.size (fun k_ => some k_ ≠ ((.slice Ao43 t214.length co43) : Value).ownBlock ∧ some k_ ≠ ((.slice Ao51 t222.length co51) : Value).ownBlock ∧ some k_ ≠ ((.slice Ao56 t225.length co56) : Value).ownBlock ∧ some k_ ≠ ((.slice Ao61 t229.length co61) : Value).ownBlock ∧ some k_ ≠ ((.slice Ao67 t232.length co67) : Value).ownBlock ∧ some k_ ≠ ((.slice Ao71 t236.length co71) : Value).ownBlock ∧ some k_ ≠ ((.slice Ao78 t239.length co78) : Value).ownBlock) (.slice Ao45 t217.length co45) t217) ∧ Aside0 (Kd.R (Kd.int .i64) 3 wc w.heap.size (fun k_ => some k_ ≠ ((.slice Ao43 t214.length co43) : Value).ownBlock ∧ some k_ ≠ ((.slice Ao45 t217.length co45) : Value).ownBlock ∧ some k_ ≠ ((.slice Ao56 t225.length co56) : Value).ownBlock ∧ some k_ ≠ ((.slice Ao61 t229.length co61) : Value).ownBlock ∧ some k_ ≠ ((.slice Ao67 t232.length co67) : Value).ownBlock ∧ some k_ ≠ ((.slice Ao71 t236.length co71) : Value).ownBlock ∧ some k_ ≠ ((.slice Ao78 t239.length co78) : Value).ownBlock) (.slice Ao51 t222.length co51) t222) ∧ Aside0 (Kd.R (Kd.int .i64) 3 wc w.heap.size (fun k_ => some k_ ≠ ((.slice Ao43 t214.length co43) : Value).ownBlock ∧ some k_ ≠ ((.slice Ao45 t217.length co45) : Value).ownBlock ∧ some k_ ≠ ((.slice Ao51 t222.length co51) : Value).ownBlock ∧ some k_ ≠ ((.slice Ao61 t229.length co61) : Value).ownBlock ∧ some k_ ≠ ((.slice Ao67 t232.length co67) : Value).ownBlock ∧ some k_ ≠ ((.slice Ao71 t236.length co71) : Value).ownBlock ∧ some k_ ≠ ((.slice Ao78 t239.length co78) : Value).ownBlock) (.slice Ao56 t225.length co56) t225) ∧ Aside0 (Kd.R (Kd.int .i64) 3 wc w.heap.size (fun k_ => some k_ ≠ ((.slice Ao43 t214.length co43) : Value).ownBlock ∧ some k_ ≠ ((.slice Ao45 t217.length co45) : Value).ownBlock ∧ some k_ ≠ ((.slice Ao51 t222.length co51) : Value).ownBlock ∧ some k_ ≠ ((.slice Ao56 t225.length co56) : Value).ownBlock ∧ some k_ ≠ ((.slice Ao67 t232.length co67) : Value).ownBlock ∧ some k_ ≠ ((.slice Ao71 t236.length co71) : Value).ownBlock ∧ some k_ ≠ ((.slice Ao78 t239.length co78) : Value).ownBlock) (.slice Ao61 t229.length co61) t229) ∧ Aside0 (Kd.R (Kd.int .i64) 3 wc w.heap.size (fun k_ => some k_ ≠ ((.slice Ao43 t214.length co43) : Value).ownBlock ∧ some k_ ≠ ((.slice Ao45 t217.length co45) : Value).ownBlock ∧ some k_ ≠ ((.slice Ao51 t222.length co51) : Value).ownBlock ∧ some k_ ≠ ((.slice Ao56 t225.length co56) : Value).ownBlock ∧ some k_ ≠ ((.slice Ao61 t229.length co61) : Value).ownBlock ∧ some k_ ≠ ((.slice Ao71 t236.length co71) : Value).ownBlock ∧ some k_ ≠ ((.slice Ao78 t239.length co78) : Value).ownBlock) (.slice Ao67 t232.length co67) t232) ∧ Aside0 (Kd.R (Kd.int .i64) 3 wc w.heap.size (fun k_ => some k_ ≠ ((.slice Ao43 t214.length co43) : Value).ownBlock ∧ some k_ ≠ ((.slice Ao45 t217.length co45) : Value).ownBlock ∧ some k_ ≠ ((.slice Ao51 t222.length co51) : Value).ownBlock ∧ some k_ ≠ ((.slice Ao56 t225.length co56) : Value).ownBlock ∧ some k_ ≠ ((.slice Ao61 t229.length co61) : Value).ownBlock ∧ some k_ ≠ ((.slice Ao67 t232.length co67) : Value).ownBlock ∧ some k_ ≠ ((.slice Ao78 t239.length co78) : Value).ownBlock) (.slice Ao71 t236.length co71) t236) ∧ Aside0 (Kd.R (Kd.int .i64) 3 wc w.heap.size (fun k_ => some k_ ≠ ((.slice Ao43 t214.length co43) : Value).ownBlock ∧ some k_ ≠ ((.slice Ao45 t217.length co45) : Value).ownBlock ∧ some k_ ≠ ((.slice Ao51 t222.length co51) : Value).ownBlock ∧ some k_ ≠ ((.slice Ao56 t225.length co56) : Value).ownBlock ∧ some k_ ≠ ((.slice Ao61 t229.length co61) : Value).ownBlock ∧ some k_ ≠ ((.slice Ao67 t232.length co67) : Value).ownBlock ∧ some k_ ≠ ((.slice Ao71 t236.length co71) : Value).ownBlock) (.slice Ao78 t239.length co78) t239) ∧ Aside0 (wc.heap[gb198]? = some (.cells #[(.slice A0_0 l0_0.length c0_0), (.slice A0_1 l0_1.length c0_1)] 37 (0, 0))) ∧ Aside0 (wc.heap[gb199]? = some (.cells #[(.slice A1_0 l1_0.length c1_0), (.slice A1_1 l1_1.length c1_1)] 37 (0, 0))) ∧ Aside0 (wc.heap[gb221]? = some (.cells #[(.slice Ao43 t214.length co43), (.slice Ao45 t217.length co45)] 26 (0, 0))) ∧ Aside0 (wc.heap[gb228]? = some (.cells #[(.slice Ao51 t222.length co51), (.slice Ao56 t225.length co56)] 26 (0, 0))) ∧ Aside0 (wc.heap[gb235]? = some (.cells #[(.slice Ao61 t229.length co61), (.slice Ao67 t232.length co67)] 26 (0, 0))) ∧ Aside0 (wc.heap[gb243]? = some (.cells #[(.slice Ao71 t236.length co71), (.slice Ao78 t239.length co78)] 26 (0, 0))) ∧ Aside0 (Below w.heap.size w wc))
      case first =>
        have H := HC25.out
        clear HC25
        replace H := Option.bind_eq_some_iff.mp H
        obtain ⟨t244, A790, H⟩ := H
        replace H : (if t244 = true then (laws_FnExactReshape.j0 k t220 t242 (t242 != t220) l0_0 l0_1 l1_0 l1_1 t214 t217 t222 t225 t229 t232 t236 t239) else (laws_FnExactReshape.j0 k t220 t242 true l0_0 l0_1 l1_0 l1_1 t214 t217 t222 t225 t229 t232 t236 t239)) = some r := H
        have A79 := Aside0.mk A790
        clear A790
        by_cases c80 : t244 = true
        · subst c80
          have H1 : (laws_FnExactReshape.j0 k t220 t242 (t242 != t220) l0_0 l0_1 l1_0 l1_1 t214 t217 t222 t225 t229 t232 t236 t239) = some r := by rw [if_pos rfl] at H; exact H
          clear H
          have H := H1
          clear H1
          have H' := Aside0.mk H
          clear H
          have hnb81 := NB243_198.out
          have hnc81 := NB198_243.out
          have hnb82 := NB243_199.out
          have hnc82 := NB199_243.out
          have hnb83 := NB243_221.out
          have hnc83 := NB221_243.out
          have hnb84 := NB243_228.out
          have hnc84 := NB228_243.out
          have hnb85 := NB243_235.out
          have hnc85 := NB235_243.out
          have hcz86_0 : w70.cell? ⟨gb243, 0, none⟩ = some (.slice none 0 0) := (blk_cell BK243.out 0).trans rfl
          have hcz86_1 : w70.cell? ⟨gb243, 1, none⟩ = some (.slice none 0 0) := (blk_cell BK243.out 1).trans rfl
          have hfz86_0 := blk_frozen BK243.out 0
          have hfz86_1 := blk_frozen BK243.out 1
          have hnb87 := NB221_198.out
          have hnc87 := NB198_221.out
          have hnb88 := NB221_199.out
          have hnc88 := NB199_221.out
          have hnb89 := NB221_228.out
          have hnc89 := NB228_221.out
          have hnb90 := NB221_235.out
          have hnc90 := NB235_221.out
          have hcz91_0 : w70.cell? ⟨gb221, 0, none⟩ = some (.slice Ao43 t214.length co43) := (blk_cell BK221.out 0).trans rfl
          have hcz91_1 : w70.cell? ⟨gb221, 1, none⟩ = some (.slice Ao45 t217.length co45) := (blk_cell BK221.out 1).trans rfl
          have hfz91_0 := blk_frozen BK221.out 0
          have hfz91_1 := blk_frozen BK221.out 1
          go_wp2_with (first | ((with_reducible refine gate_callee (f := 28) rfl ?_); refine goesL_ (some 47) rfl rfl Try.func28 (by kernel_rfl) rfl #[.agg #[.slice Ao71 t236.length co71, .slice Ao78 t239.length co78], .agg #[.slice Ao43 t214.length co43, .slice Ao45 t217.length co45]] rfl (by (try simp only [List.map_toArray, List.map_cons, List.map_nil]); first | done | rfl | (simp only [List.length_drop, List.length_take]; rfl)) ?_; (with_reducible refine (laws_eqArray.calls k _ _ t236 _ _ t239 _ _ t214 _ _ t217 true _ ?side1 ?side2 ?side3 ?side4 ?side5 ?side6 ?side7 ?side8 A79.out).mono ?_); (case side1 => refine (Kd.R_reads' (e := 3) (base := w.heap.size) (ok := fun k_ => ((((((((((some k_ ≠ (.slice Ao78 t239.length co78 : Value).ownBlock ∧ some k_ ≠ (v203 : Value).ownBlock) ∧ some k_ ≠ (v206 : Value).ownBlock) ∧ some k_ ≠ (v209 : Value).ownBlock) ∧ some k_ ≠ (v212 : Value).ownBlock) ∧ some k_ ≠ (.slice Ao43 t214.length co43 : Value).ownBlock) ∧ some k_ ≠ (.slice Ao45 t217.length co45 : Value).ownBlock) ∧ some k_ ≠ (.slice Ao51 t222.length co51 : Value).ownBlock) ∧ some k_ ≠ (.slice Ao56 t225.length co56 : Value).ownBlock) ∧ some k_ ≠ (.slice Ao61 t229.length co61 : Value).ownBlock) ∧ some k_ ≠ (.slice Ao67 t232.length co67 : Value).ownBlock)) (n := t236.length) (c := co71) ?_).2.2; exact (by (with_reducible repeat (first | apply Kd.R_alloc | apply Kd.R_drewN | apply Kd.R_drew)); exact (Kd.R_mono (Kd.R_far (p := ⟨gb243, 1, none⟩) (Kd.R_far (p := ⟨gb243, 0, none⟩) (Kd.R_types HO238.out BK243.out (by decide)) (fun _ hk => hk.2) (.slice Ao71 t236.length co71)) (fun _ hk => hk.2) (.slice Ao78 t239.length co78)) (fun _ h_ => h_.1)))); (case side2 => exact (Kd.R_reads' HO238.out).2.1); (case side3 => refine (Kd.R_reads' (e := 3) (base := w.heap.size) (ok := fun k_ => ((((((((((some k_ ≠ (.slice Ao71 t236.length co71 : Value).ownBlock ∧ some k_ ≠ (v203 : Value).ownBlock) ∧ some k_ ≠ (v206 : Value).ownBlock) ∧ some k_ ≠ (v209 : Value).ownBlock) ∧ some k_ ≠ (v212 : Value).ownBlock) ∧ some k_ ≠ (.slice Ao43 t214.length co43 : Value).ownBlock) ∧ some k_ ≠ (.slice Ao45 t217.length co45 : Value).ownBlock) ∧ some k_ ≠ (.slice Ao51 t222.length co51 : Value).ownBlock) ∧ some k_ ≠ (.slice Ao56 t225.length co56 : Value).ownBlock) ∧ some k_ ≠ (.slice Ao61 t229.length co61 : Value).ownBlock) ∧ some k_ ≠ (.slice Ao67 t232.length co67 : Value).ownBlock)) (n := t239.length) (c := co78) ?_).2.2; exact (by (with_reducible repeat (first | apply Kd.R_alloc | apply Kd.R_drewN | apply Kd.R_drew)); exact (Kd.R_mono (Kd.R_far (p := ⟨gb243, 1, none⟩) (Kd.R_far (p := ⟨gb243, 0, none⟩) (Kd.R_types HO241.out BK243.out (by decide)) (fun _ hk => hk.2) (.slice Ao71 t236.length co71)) (fun _ hk => hk.2) (.slice Ao78 t239.length co78)) (fun _ h_ => h_.1)))); (case side4 => exact (Kd.R_reads' HO241.out).2.1); (case side5 => refine (Kd.R_reads' (e := 3) (base := w.heap.size) (ok := fun k_ => (((((((some k_ ≠ (v203 : Value).ownBlock ∧ (some k_ ≠ (v206 : Value).ownBlock ∧ (some k_ ≠ (v209 : Value).ownBlock ∧ (some k_ ≠ (v212 : Value).ownBlock ∧ some k_ ≠ (.slice Ao45 t217.length co45 : Value).ownBlock)))) ∧ some k_ ≠ (.slice Ao51 t222.length co51 : Value).ownBlock) ∧ some k_ ≠ (.slice Ao56 t225.length co56 : Value).ownBlock) ∧ some k_ ≠ (.slice Ao61 t229.length co61 : Value).ownBlock) ∧ some k_ ≠ (.slice Ao67 t232.length co67 : Value).ownBlock) ∧ some k_ ≠ (.slice Ao71 t236.length co71 : Value).ownBlock) ∧ some k_ ≠ (.slice Ao78 t239.length co78 : Value).ownBlock)) (n := t214.length) (c := co43) ?_).2.2; exact (by (with_reducible repeat (first | apply Kd.R_alloc | apply Kd.R_drewN | apply Kd.R_drew)); exact (Kd.R_mono (Kd.R_far (p := ⟨gb243, 1, none⟩) (Kd.R_far (p := ⟨gb243, 0, none⟩) (Kd.R_types HO216.out BK243.out (by decide)) (fun _ hk => hk.2) (.slice Ao71 t236.length co71)) (fun _ hk => hk.2) (.slice Ao78 t239.length co78)) (fun _ h_ => h_.1)))); (case side6 => exact (Kd.R_reads' HO216.out).2.1); (case side7 => refine (Kd.R_reads' (e := 3) (base := w.heap.size) (ok := fun k_ => (((((((some k_ ≠ (v203 : Value).ownBlock ∧ (some k_ ≠ (v206 : Value).ownBlock ∧ (some k_ ≠ (v209 : Value).ownBlock ∧ (some k_ ≠ (v212 : Value).ownBlock ∧ some k_ ≠ (.slice Ao43 t214.length co43 : Value).ownBlock)))) ∧ some k_ ≠ (.slice Ao51 t222.length co51 : Value).ownBlock) ∧ some k_ ≠ (.slice Ao56 t225.length co56 : Value).ownBlock) ∧ some k_ ≠ (.slice Ao61 t229.length co61 : Value).ownBlock) ∧ some k_ ≠ (.slice Ao67 t232.length co67 : Value).ownBlock) ∧ some k_ ≠ (.slice Ao71 t236.length co71 : Value).ownBlock) ∧ some k_ ≠ (.slice Ao78 t239.length co78 : Value).ownBlock)) (n := t217.length) (c := co45) ?_).2.2; exact (by (with_reducible repeat (first | apply Kd.R_alloc | apply Kd.R_drewN | apply Kd.R_drew)); exact (Kd.R_mono (Kd.R_far (p := ⟨gb243, 1, none⟩) (Kd.R_far (p := ⟨gb243, 0, none⟩) (Kd.R_types HO219.out BK243.out (by decide)) (fun _ hk => hk.2) (.slice Ao71 t236.length co71)) (fun _ hk => hk.2) (.slice Ao78 t239.length co78)) (fun _ h_ => h_.1)))); (case side8 => exact (Kd.R_reads' HO219.out).2.1); rintro e w92 ⟨rfl, hb⟩; refine ⟨_, rfl, ?_⟩; have n0_ := Aside0.mk (Kd.R_below (by (with_reducible repeat (first | apply Kd.R_alloc | apply Kd.R_drewN | apply Kd.R_drew)); exact (Kd.R_mono (Kd.R_far (p := ⟨gb243, 1, none⟩) (Kd.R_far (p := ⟨gb243, 0, none⟩) (Kd.R_types HO204.out BK243.out (by decide)) (fun _ hk => hk.2) (.slice Ao71 t236.length co71)) (fun _ hk => hk.2) (.slice Ao78 t239.length co78)) (fun _ h_ => h_.1))) hb); have n1_ := Aside0.mk (Kd.R_below (by (with_reducible repeat (first | apply Kd.R_alloc | apply Kd.R_drewN | apply Kd.R_drew)); exact (Kd.R_mono (Kd.R_far (p := ⟨gb243, 1, none⟩) (Kd.R_far (p := ⟨gb243, 0, none⟩) (Kd.R_types HO207.out BK243.out (by decide)) (fun _ hk => hk.2) (.slice Ao71 t236.length co71)) (fun _ hk => hk.2) (.slice Ao78 t239.length co78)) (fun _ h_ => h_.1))) hb); have n2_ := Aside0.mk (Kd.R_below (by (with_reducible repeat (first | apply Kd.R_alloc | apply Kd.R_drewN | apply Kd.R_drew)); exact (Kd.R_mono (Kd.R_far (p := ⟨gb243, 1, none⟩) (Kd.R_far (p := ⟨gb243, 0, none⟩) (Kd.R_types HO210.out BK243.out (by decide)) (fun _ hk => hk.2) (.slice Ao71 t236.length co71)) (fun _ hk => hk.2) (.slice Ao78 t239.length co78)) (fun _ h_ => h_.1))) hb); have n3_ := Aside0.mk (Kd.R_below (by (with_reducible repeat (first | apply Kd.R_alloc | apply Kd.R_drewN | apply Kd.R_drew)); exact (Kd.R_mono (Kd.R_far (p := ⟨gb243, 1, none⟩) (Kd.R_far (p := ⟨gb243, 0, none⟩) (Kd.R_types HO213.out BK243.out (by decide)) (fun _ hk => hk.2) (.slice Ao71 t236.length co71)) (fun _ hk => hk.2) (.slice Ao78 t239.length co78)) (fun _ h_ => h_.1))) hb); have n4_ := Aside0.mk (Kd.R_below (by (with_reducible repeat (first | apply Kd.R_alloc | apply Kd.R_drewN | apply Kd.R_drew)); exact (Kd.R_mono (Kd.R_far (p := ⟨gb243, 1, none⟩) (Kd.R_far (p := ⟨gb243, 0, none⟩) (Kd.R_types HO216.out BK243.out (by decide)) (fun _ hk => hk.2) (.slice Ao71 t236.length co71)) (fun _ hk => hk.2) (.slice Ao78 t239.length co78)) (fun _ h_ => h_.1))) hb); have n5_ := Aside0.mk (Kd.R_below (by (with_reducible repeat (first | apply Kd.R_alloc | apply Kd.R_drewN | apply Kd.R_drew)); exact (Kd.R_mono (Kd.R_far (p := ⟨gb243, 1, none⟩) (Kd.R_far (p := ⟨gb243, 0, none⟩) (Kd.R_types HO219.out BK243.out (by decide)) (fun _ hk => hk.2) (.slice Ao71 t236.length co71)) (fun _ hk => hk.2) (.slice Ao78 t239.length co78)) (fun _ h_ => h_.1))) hb); have n6_ := Aside0.mk (Kd.R_below (by (with_reducible repeat (first | apply Kd.R_alloc | apply Kd.R_drewN | apply Kd.R_drew)); exact (Kd.R_mono (Kd.R_far (p := ⟨gb243, 1, none⟩) (Kd.R_far (p := ⟨gb243, 0, none⟩) (Kd.R_types HO224.out BK243.out (by decide)) (fun _ hk => hk.2) (.slice Ao71 t236.length co71)) (fun _ hk => hk.2) (.slice Ao78 t239.length co78)) (fun _ h_ => h_.1))) hb); have n7_ := Aside0.mk (Kd.R_below (by (with_reducible repeat (first | apply Kd.R_alloc | apply Kd.R_drewN | apply Kd.R_drew)); exact (Kd.R_mono (Kd.R_far (p := ⟨gb243, 1, none⟩) (Kd.R_far (p := ⟨gb243, 0, none⟩) (Kd.R_types HO227.out BK243.out (by decide)) (fun _ hk => hk.2) (.slice Ao71 t236.length co71)) (fun _ hk => hk.2) (.slice Ao78 t239.length co78)) (fun _ h_ => h_.1))) hb); have n8_ := Aside0.mk (Kd.R_below (by (with_reducible repeat (first | apply Kd.R_alloc | apply Kd.R_drewN | apply Kd.R_drew)); exact (Kd.R_mono (Kd.R_far (p := ⟨gb243, 1, none⟩) (Kd.R_far (p := ⟨gb243, 0, none⟩) (Kd.R_types HO231.out BK243.out (by decide)) (fun _ hk => hk.2) (.slice Ao71 t236.length co71)) (fun _ hk => hk.2) (.slice Ao78 t239.length co78)) (fun _ h_ => h_.1))) hb); have n9_ := Aside0.mk (Kd.R_below (by (with_reducible repeat (first | apply Kd.R_alloc | apply Kd.R_drewN | apply Kd.R_drew)); exact (Kd.R_mono (Kd.R_far (p := ⟨gb243, 1, none⟩) (Kd.R_far (p := ⟨gb243, 0, none⟩) (Kd.R_types HO234.out BK243.out (by decide)) (fun _ hk => hk.2) (.slice Ao71 t236.length co71)) (fun _ hk => hk.2) (.slice Ao78 t239.length co78)) (fun _ h_ => h_.1))) hb); have n10_ := Aside0.mk (Kd.R_below (by (with_reducible repeat (first | apply Kd.R_alloc | apply Kd.R_drewN | apply Kd.R_drew)); exact (Kd.R_mono (Kd.R_far (p := ⟨gb243, 1, none⟩) (Kd.R_far (p := ⟨gb243, 0, none⟩) (Kd.R_types HO238.out BK243.out (by decide)) (fun _ hk => hk.2) (.slice Ao71 t236.length co71)) (fun _ hk => hk.2) (.slice Ao78 t239.length co78)) (fun _ h_ => h_.1))) hb); have n11_ := Aside0.mk (Kd.R_below (by (with_reducible repeat (first | apply Kd.R_alloc | apply Kd.R_drewN | apply Kd.R_drew)); exact (Kd.R_mono (Kd.R_far (p := ⟨gb243, 1, none⟩) (Kd.R_far (p := ⟨gb243, 0, none⟩) (Kd.R_types HO241.out BK243.out (by decide)) (fun _ hk => hk.2) (.slice Ao71 t236.length co71)) (fun _ hk => hk.2) (.slice Ao78 t239.length co78)) (fun _ h_ => h_.1))) hb); have n12_ := Aside0.mk (blk_below (g := gb198) (o := .cells #[.slice A0_0 l0_0.length c0_0, .slice A0_1 l0_1.length c0_1] 37 (0, 0)) (by (with_reducible repeat (first | refine blk_drewN ?_ _ | refine blk_drew ?_ | refine blk_alloc ?_ _)); refine blk_far ?_ NB198_243.out _; (with_reducible repeat (first | refine blk_drewN ?_ _ | refine blk_drew ?_ | refine blk_alloc ?_ _)); refine blk_far ?_ NB198_243.out _; (with_reducible repeat (first | refine blk_drewN ?_ _ | refine blk_drew ?_ | refine blk_alloc ?_ _)); exact BK198.out) hb); have n13_ := Aside0.mk (blk_below (g := gb199) (o := .cells #[.slice A1_0 l1_0.length c1_0, .slice A1_1 l1_1.length c1_1] 37 (0, 0)) (by (with_reducible repeat (first | refine blk_drewN ?_ _ | refine blk_drew ?_ | refine blk_alloc ?_ _)); refine blk_far ?_ NB199_243.out _; (with_reducible repeat (first | refine blk_drewN ?_ _ | refine blk_drew ?_ | refine blk_alloc ?_ _)); refine blk_far ?_ NB199_243.out _; (with_reducible repeat (first | refine blk_drewN ?_ _ | refine blk_drew ?_ | refine blk_alloc ?_ _)); exact BK199.out) hb); have n14_ := Aside0.mk (blk_below (g := gb221) (o := .cells #[.slice Ao43 t214.length co43, .slice Ao45 t217.length co45] 26 (0, 0)) (by (with_reducible repeat (first | refine blk_drewN ?_ _ | refine blk_drew ?_ | refine blk_alloc ?_ _)); refine blk_far ?_ NB221_243.out _; (with_reducible repeat (first | refine blk_drewN ?_ _ | refine blk_drew ?_ | refine blk_alloc ?_ _)); refine blk_far ?_ NB221_243.out _; (with_reducible repeat (first | refine blk_drewN ?_ _ | refine blk_drew ?_ | refine blk_alloc ?_ _)); exact BK221.out) hb); have n15_ := Aside0.mk (blk_below (g := gb228) (o := .cells #[.slice Ao51 t222.length co51, .slice Ao56 t225.length co56] 26 (0, 0)) (by (with_reducible repeat (first | refine blk_drewN ?_ _ | refine blk_drew ?_ | refine blk_alloc ?_ _)); refine blk_far ?_ NB228_243.out _; (with_reducible repeat (first | refine blk_drewN ?_ _ | refine blk_drew ?_ | refine blk_alloc ?_ _)); refine blk_far ?_ NB228_243.out _; (with_reducible repeat (first | refine blk_drewN ?_ _ | refine blk_drew ?_ | refine blk_alloc ?_ _)); exact BK228.out) hb); have n16_ := Aside0.mk (blk_below (g := gb235) (o := .cells #[.slice Ao61 t229.length co61, .slice Ao67 t232.length co67] 26 (0, 0)) (by (with_reducible repeat (first | refine blk_drewN ?_ _ | refine blk_drew ?_ | refine blk_alloc ?_ _)); refine blk_far ?_ NB235_243.out _; (with_reducible repeat (first | refine blk_drewN ?_ _ | refine blk_drew ?_ | refine blk_alloc ?_ _)); refine blk_far ?_ NB235_243.out _; (with_reducible repeat (first | refine blk_drewN ?_ _ | refine blk_drew ?_ | refine blk_alloc ?_ _)); exact BK235.out) hb); have n17_ := Aside0.mk (blk_below (g := gb243) (o := .cells #[.slice Ao71 t236.length co71, .slice Ao78 t239.length co78] 26 (0, 0)) (by (with_reducible repeat (first | refine blk_drewN ?_ _ | refine blk_drew ?_ | refine blk_alloc ?_ _)); refine blk_put (cs := #[.slice Ao71 t236.length co71, .slice none 0 0]) ?_ 1 _ rfl; (with_reducible repeat (first | refine blk_drewN ?_ _ | refine blk_drew ?_ | refine blk_alloc ?_ _)); refine blk_put (cs := #[.slice none 0 0, .slice none 0 0]) ?_ 0 _ rfl; (with_reducible repeat (first | refine blk_drewN ?_ _ | refine blk_drew ?_ | refine blk_alloc ?_ _)); exact BK243.out) hb); have n18_ := Aside0.mk (below_step (by repeat (first | (with_reducible first | exact HB.out | apply below_alloc | apply pw_below_drewN | apply below_drew1 | refine below_set ?_ GE198.out | refine below_set ?_ GE199.out | refine below_set ?_ GE221.out | refine below_set ?_ GE228.out | refine below_set ?_ GE235.out | refine below_set ?_ GE243.out) | exact HB.out)) hb); clear HO204; clear HO207; clear HO210; clear HO213; clear HO216; clear HO219; clear HO224; clear HO227; clear HO231; clear HO234; clear HO238; clear HO241; clear BK198; clear BK199; clear BK221; clear BK228; clear BK235; clear BK243; clear HB; have HO204 := n0_; have HO207 := n1_; have HO210 := n2_; have HO213 := n3_; have HO216 := n4_; have HO219 := n5_; have HO224 := n6_; have HO227 := n7_; have HO231 := n8_; have HO234 := n9_; have HO238 := n10_; have HO241 := n11_; have BK198 := n12_; have BK199 := n13_; have BK221 := n14_; have BK228 := n15_; have BK235 := n16_; have BK243 := n17_; have HB := n18_; clear n0_ n1_ n2_ n3_ n4_ n5_ n6_ n7_ n8_ n9_ n10_ n11_ n12_ n13_ n14_ n15_ n16_ n17_ n18_; (try clear hb); (try clear hb2); (try clear hk); (try clear hi)))
          go_meet
          case rel => exact ⟨_, ((t242 != t220)), (by first | rfl | (simp; done) | (simp [*]; done)), H', ⟨by first | omega | exact Nat.le_refl _⟩, ⟨by (with_reducible repeat (first | apply Kd.R_alloc | apply Kd.R_drewN | apply Kd.R_drew)); exact Kd.R_mono HO216.out (fun _ hk => ⟨hk.1.1.1.1.1.1.2.2.2.2, ⟨hk.1.1.1.1.1.2, ⟨hk.1.1.1.1.2, ⟨hk.1.1.1.2, ⟨hk.1.1.2, ⟨hk.1.2, hk.2⟩⟩⟩⟩⟩⟩)⟩, ⟨by (with_reducible repeat (first | apply Kd.R_alloc | apply Kd.R_drewN | apply Kd.R_drew)); exact Kd.R_mono HO219.out (fun _ hk => ⟨hk.1.1.1.1.1.1.2.2.2.2, ⟨hk.1.1.1.1.1.2, ⟨hk.1.1.1.1.2, ⟨hk.1.1.1.2, ⟨hk.1.1.2, ⟨hk.1.2, hk.2⟩⟩⟩⟩⟩⟩)⟩, ⟨by (with_reducible repeat (first | apply Kd.R_alloc | apply Kd.R_drewN | apply Kd.R_drew)); exact Kd.R_mono HO224.out (fun _ hk => ⟨hk.1.1.1.1.1.2, ⟨hk.1.1.1.1.2, ⟨hk.1.1.1.1.1.1.1.1.1.1, ⟨hk.1.1.1.2, ⟨hk.1.1.2, ⟨hk.1.2, hk.2⟩⟩⟩⟩⟩⟩)⟩, ⟨by (with_reducible repeat (first | apply Kd.R_alloc | apply Kd.R_drewN | apply Kd.R_drew)); exact Kd.R_mono HO227.out (fun _ hk => ⟨hk.1.1.1.1.1.2, ⟨hk.1.1.1.1.2, ⟨hk.1.1.1.1.1.1.1.1.1.1, ⟨hk.1.1.1.2, ⟨hk.1.1.2, ⟨hk.1.2, hk.2⟩⟩⟩⟩⟩⟩)⟩, ⟨by (with_reducible repeat (first | apply Kd.R_alloc | apply Kd.R_drewN | apply Kd.R_drew)); exact Kd.R_mono HO231.out (fun _ hk => ⟨hk.1.1.1.1.1.2, ⟨hk.1.1.1.1.2, ⟨hk.1.1.1.2, ⟨hk.1.1.2, ⟨hk.1.1.1.1.1.1.1.1.1.1, ⟨hk.1.2, hk.2⟩⟩⟩⟩⟩⟩)⟩, ⟨by (with_reducible repeat (first | apply Kd.R_alloc | apply Kd.R_drewN | apply Kd.R_drew)); exact Kd.R_mono HO234.out (fun _ hk => ⟨hk.1.1.1.1.1.2, ⟨hk.1.1.1.1.2, ⟨hk.1.1.1.2, ⟨hk.1.1.2, ⟨hk.1.1.1.1.1.1.1.1.1.1, ⟨hk.1.2, hk.2⟩⟩⟩⟩⟩⟩)⟩, ⟨by (with_reducible repeat (first | apply Kd.R_alloc | apply Kd.R_drewN | apply Kd.R_drew)); exact Kd.R_mono HO238.out (fun _ hk => ⟨hk.1.1.1.1.1.2, ⟨hk.1.1.1.1.2, ⟨hk.1.1.1.2, ⟨hk.1.1.2, ⟨hk.1.2, ⟨hk.2, hk.1.1.1.1.1.1.1.1.1.1⟩⟩⟩⟩⟩⟩)⟩, ⟨by (with_reducible repeat (first | apply Kd.R_alloc | apply Kd.R_drewN | apply Kd.R_drew)); exact Kd.R_mono HO241.out (fun _ hk => ⟨hk.1.1.1.1.1.2, ⟨hk.1.1.1.1.2, ⟨hk.1.1.1.2, ⟨hk.1.1.2, ⟨hk.1.2, ⟨hk.2, hk.1.1.1.1.1.1.1.1.1.1⟩⟩⟩⟩⟩⟩)⟩, ⟨by (with_reducible repeat (first | refine blk_drewN ?_ _ | refine blk_drew ?_ | refine blk_alloc ?_ _)); exact BK198.out⟩, ⟨by (with_reducible repeat (first | refine blk_drewN ?_ _ | refine blk_drew ?_ | refine blk_alloc ?_ _)); exact BK199.out⟩, ⟨by (with_reducible repeat (first | refine blk_drewN ?_ _ | refine blk_drew ?_ | refine blk_alloc ?_ _)); exact BK221.out⟩, ⟨by (with_reducible repeat (first | refine blk_drewN ?_ _ | refine blk_drew ?_ | refine blk_alloc ?_ _)); exact BK228.out⟩, ⟨by (with_reducible repeat (first | refine blk_drewN ?_ _ | refine blk_drew ?_ | refine blk_alloc ?_ _)); exact BK235.out⟩, ⟨by (with_reducible repeat (first | refine blk_drewN ?_ _ | refine blk_drew ?_ | refine blk_alloc ?_ _)); exact BK243.out⟩, ⟨by repeat (first | (with_reducible first | exact HB.out | apply below_alloc | apply pw_below_drewN | apply below_drew1 | refine below_set ?_ GE198.out | refine below_set ?_ GE199.out | refine below_set ?_ GE221.out | refine below_set ?_ GE228.out | refine below_set ?_ GE235.out | refine below_set ?_ GE243.out) | exact HB.out)⟩⟩
        · replace c80 := Bool.eq_false_iff.mpr c80
          subst c80
          have H1 : (laws_FnExactReshape.j0 k t220 t242 true l0_0 l0_1 l1_0 l1_1 t214 t217 t222 t225 t229 t232 t236 t239) = some r := by rw [if_neg (show ¬ (false = true) by decide)] at H; exact H
          clear H
          have H := H1
          clear H1
          have hz_ : ∀ kz, laws_FnExactReshape.j0 kz t220 t242 true l0_0 l0_1 l1_0 l1_1 t214 t217 t222 t225 t229 t232 t236 t239 = some r → r = false := by intro kz hz; cases kz with | zero => exact absurd hz (by simp [laws_FnExactReshape.j0]) | succ kz => simp only [laws_FnExactReshape.j0] at hz; first | (rw [if_pos rfl] at hz; exact (Option.some.inj hz).symm) | (simp at hz; exact hz.symm) | (simp at hz; exact hz)
          exact absurd (HT.out.symm.trans (hz_ _ H)) (by decide)
      case rest =>
        clear HC25
        try clear c1
        try clear c2
        try clear p2
        try clear c4
        try clear c5
        try clear c6
        try clear c7
        try clear c8
        try clear c9
        try clear c25
        try clear c28
        try clear c47
        try clear c52
        try clear c53
        try clear c54
        try clear c57
        try clear c62
        try clear c63
        try clear c64
        try clear c65
        try clear c72
        try clear c73
        try clear c74
        try clear c75
        try clear c76
        try clear c80
        try clear c81
        try clear c82
        try clear c83
        try clear c84
        try clear c85
        try clear c87
        try clear c88
        try clear c89
        try clear c90
        try clear hcz48_0
        try clear hcz48_1
        try clear hcz55_0
        try clear hcz55_1
        try clear hcz58_0
        try clear hcz58_1
        try clear hcz66_0
        try clear hcz66_1
        try clear hcz68_0
        try clear hcz68_1
        try clear hcz77_0
        try clear hcz77_1
        try clear hcz86_0
        try clear hcz86_1
        try clear hcz91_0
        try clear hcz91_1
        try clear hfz48_0
        try clear hfz48_1
        try clear hfz55_0
        try clear hfz55_1
        try clear hfz58_0
        try clear hfz58_1
        try clear hfz66_0
        try clear hfz66_1
        try clear hfz68_0
        try clear hfz68_1
        try clear hfz77_0
        try clear hfz77_1
        try clear hfz86_0
        try clear hfz86_1
        try clear hfz91_0
        try clear hfz91_1
        obtain ⟨kq, x53_24, rfl, HA, HJ24, HO_222000, HO_222001, HO_229000, HO_229001, HO_236000, HO_236001, HO_244000, HO_244001, BK198, BK199, BK221, BK228, BK235, BK243, HB⟩ := hcut
        cases kq with
        | zero => exact absurd HA.out (by simp [laws_FnExactReshape.j0])
        | succ kj24 =>
          have H := HA.out
          clear HA
          simp only [laws_FnExactReshape.j0] at H
          by_cases c93 : x53_24 = true
          · subst c93
            have H1 : (some false) = some r := by rw [if_pos rfl] at H; exact H
            clear H
            have H := H1
            clear H1
            obtain rfl := Option.some.inj H
            exact absurd HT.out (by decide)
          · replace c93 := Bool.eq_false_iff.mpr c93
            subst c93
            have H1 : ((laws_toArray.f kj24 l0_0 l0_1).bind fun bt245 => ((laws_eqArray.f kj24 t222 t225 bt245.1 bt245.2).bind fun t251 => (if t251 = true then ((laws_toArray.f kj24 l1_0 l1_1).bind fun bt252 => ((laws_eqArray.f kj24 t229 t232 bt252.1 bt252.2).bind fun t258 => (if t258 = true then ((laws_markArray.f kj24 t222 t225 1).bind fun bt259 => ((laws_markArray.f kj24 t229 t232 bt259.1).bind fun bt262 => (if bt262.1 < 0 then (laws_FnExactReshape.j1 kj24 t220 true l0_0 l0_1 l1_0 l1_1 t214 t217 t236 t239) else ((laws_eqArray.f kj24 t236 t239 t214 t217).bind fun t265 => (if t265 = true then (laws_FnExactReshape.j1 kj24 t220 (t242 != t220) l0_0 l0_1 l1_0 l1_1 t214 t217 t236 t239) else (laws_FnExactReshape.j1 kj24 t220 true l0_0 l0_1 l1_0 l1_1 t214 t217 t236 t239)))))) else (some false)))) else (some false)))) = some r := by rw [if_neg (show ¬ (false = true) by decide)] at H; exact H
            clear H
            have H := H1
            clear H1
            replace H := Option.bind_eq_some_iff.mp H
            obtain ⟨⟨t245, t248⟩, A940, H⟩ := H
            replace H : ((laws_eqArray.f kj24 t222 t225 t245 t248).bind fun t251 => (if t251 = true then ((laws_toArray.f kj24 l1_0 l1_1).bind fun bt252 => ((laws_eqArray.f kj24 t229 t232 bt252.1 bt252.2).bind fun t258 => (if t258 = true then ((laws_markArray.f kj24 t222 t225 1).bind fun bt259 => ((laws_markArray.f kj24 t229 t232 bt259.1).bind fun bt262 => (if bt262.1 < 0 then (laws_FnExactReshape.j1 kj24 t220 true l0_0 l0_1 l1_0 l1_1 t214 t217 t236 t239) else ((laws_eqArray.f kj24 t236 t239 t214 t217).bind fun t265 => (if t265 = true then (laws_FnExactReshape.j1 kj24 t220 (t242 != t220) l0_0 l0_1 l1_0 l1_1 t214 t217 t236 t239) else (laws_FnExactReshape.j1 kj24 t220 true l0_0 l0_1 l1_0 l1_1 t214 t217 t236 t239)))))) else (some false)))) else (some false))) = some r := H
            have A94 := Aside0.mk A940
            clear A940
            replace H := Option.bind_eq_some_iff.mp H
            obtain ⟨t251, A950, H⟩ := H
            replace H : (if t251 = true then ((laws_toArray.f kj24 l1_0 l1_1).bind fun bt252 => ((laws_eqArray.f kj24 t229 t232 bt252.1 bt252.2).bind fun t258 => (if t258 = true then ((laws_markArray.f kj24 t222 t225 1).bind fun bt259 => ((laws_markArray.f kj24 t229 t232 bt259.1).bind fun bt262 => (if bt262.1 < 0 then (laws_FnExactReshape.j1 kj24 t220 true l0_0 l0_1 l1_0 l1_1 t214 t217 t236 t239) else ((laws_eqArray.f kj24 t236 t239 t214 t217).bind fun t265 => (if t265 = true then (laws_FnExactReshape.j1 kj24 t220 (t242 != t220) l0_0 l0_1 l1_0 l1_1 t214 t217 t236 t239) else (laws_FnExactReshape.j1 kj24 t220 true l0_0 l0_1 l1_0 l1_1 t214 t217 t236 t239)))))) else (some false)))) else (some false)) = some r := H
            have A95 := Aside0.mk A950
            clear A950
            by_cases c96 : t251 = true
            · subst c96
              have H1 : ((laws_toArray.f kj24 l1_0 l1_1).bind fun bt252 => ((laws_eqArray.f kj24 t229 t232 bt252.1 bt252.2).bind fun t258 => (if t258 = true then ((laws_markArray.f kj24 t222 t225 1).bind fun bt259 => ((laws_markArray.f kj24 t229 t232 bt259.1).bind fun bt262 => (if bt262.1 < 0 then (laws_FnExactReshape.j1 kj24 t220 true l0_0 l0_1 l1_0 l1_1 t214 t217 t236 t239) else ((laws_eqArray.f kj24 t236 t239 t214 t217).bind fun t265 => (if t265 = true then (laws_FnExactReshape.j1 kj24 t220 (t242 != t220) l0_0 l0_1 l1_0 l1_1 t214 t217 t236 t239) else (laws_FnExactReshape.j1 kj24 t220 true l0_0 l0_1 l1_0 l1_1 t214 t217 t236 t239)))))) else (some false)))) = some r := by rw [if_pos rfl] at H; exact H
              clear H
              have H := H1
              clear H1
              replace H := Option.bind_eq_some_iff.mp H
              obtain ⟨⟨t252, t255⟩, A970, H⟩ := H
              replace H : ((laws_eqArray.f kj24 t229 t232 t252 t255).bind fun t258 => (if t258 = true then ((laws_markArray.f kj24 t222 t225 1).bind fun bt259 => ((laws_markArray.f kj24 t229 t232 bt259.1).bind fun bt262 => (if bt262.1 < 0 then (laws_FnExactReshape.j1 kj24 t220 true l0_0 l0_1 l1_0 l1_1 t214 t217 t236 t239) else ((laws_eqArray.f kj24 t236 t239 t214 t217).bind fun t265 => (if t265 = true then (laws_FnExactReshape.j1 kj24 t220 (t242 != t220) l0_0 l0_1 l1_0 l1_1 t214 t217 t236 t239) else (laws_FnExactReshape.j1 kj24 t220 true l0_0 l0_1 l1_0 l1_1 t214 t217 t236 t239)))))) else (some false))) = some r := H
              have A97 := Aside0.mk A970
              clear A970
              replace H := Option.bind_eq_some_iff.mp H
              obtain ⟨t258, A980, H⟩ := H
              replace H : (if t258 = true then ((laws_markArray.f kj24 t222 t225 1).bind fun bt259 => ((laws_markArray.f kj24 t229 t232 bt259.1).bind fun bt262 => (if bt262.1 < 0 then (laws_FnExactReshape.j1 kj24 t220 true l0_0 l0_1 l1_0 l1_1 t214 t217 t236 t239) else ((laws_eqArray.f kj24 t236 t239 t214 t217).bind fun t265 => (if t265 = true then (laws_FnExactReshape.j1 kj24 t220 (t242 != t220) l0_0 l0_1 l1_0 l1_1 t214 t217 t236 t239) else (laws_FnExactReshape.j1 kj24 t220 true l0_0 l0_1 l1_0 l1_1 t214 t217 t236 t239)))))) else (some false)) = some r := H
              have A98 := Aside0.mk A980
              clear A980
              by_cases c99 : t258 = true
              · subst c99
                have H1 : ((laws_markArray.f kj24 t222 t225 1).bind fun bt259 => ((laws_markArray.f kj24 t229 t232 bt259.1).bind fun bt262 => (if bt262.1 < 0 then (laws_FnExactReshape.j1 kj24 t220 true l0_0 l0_1 l1_0 l1_1 t214 t217 t236 t239) else ((laws_eqArray.f kj24 t236 t239 t214 t217).bind fun t265 => (if t265 = true then (laws_FnExactReshape.j1 kj24 t220 (t242 != t220) l0_0 l0_1 l1_0 l1_1 t214 t217 t236 t239) else (laws_FnExactReshape.j1 kj24 t220 true l0_0 l0_1 l1_0 l1_1 t214 t217 t236 t239)))))) = some r := by rw [if_pos rfl] at H; exact H
                clear H
                have H := H1
                clear H1
                replace H := Option.bind_eq_some_iff.mp H
                obtain ⟨⟨t259, t260, t261⟩, A1000, H⟩ := H
                replace H : ((laws_markArray.f kj24 t229 t232 t259).bind fun bt262 => (if bt262.1 < 0 then (laws_FnExactReshape.j1 kj24 t220 true l0_0 l0_1 l1_0 l1_1 t214 t217 t236 t239) else ((laws_eqArray.f kj24 t236 t239 t214 t217).bind fun t265 => (if t265 = true then (laws_FnExactReshape.j1 kj24 t220 (t242 != t220) l0_0 l0_1 l1_0 l1_1 t214 t217 t236 t239) else (laws_FnExactReshape.j1 kj24 t220 true l0_0 l0_1 l1_0 l1_1 t214 t217 t236 t239))))) = some r := H
                have A100 := Aside0.mk A1000
                clear A1000
                replace H := Option.bind_eq_some_iff.mp H
                obtain ⟨⟨t262, t263, t264⟩, A1010, H⟩ := H
                replace H : (if t262 < 0 then (laws_FnExactReshape.j1 kj24 t220 true l0_0 l0_1 l1_0 l1_1 t214 t217 t236 t239) else ((laws_eqArray.f kj24 t236 t239 t214 t217).bind fun t265 => (if t265 = true then (laws_FnExactReshape.j1 kj24 t220 (t242 != t220) l0_0 l0_1 l1_0 l1_1 t214 t217 t236 t239) else (laws_FnExactReshape.j1 kj24 t220 true l0_0 l0_1 l1_0 l1_1 t214 t217 t236 t239)))) = some r := H
                have A101 := Aside0.mk A1010
                clear A1010
                have HC102 := Aside0.mk H
                clear H
                try go_wp2
                have n0_ := Aside0.mk (Kd.R_drew HO_222000.out)
                have n1_ := Aside0.mk (Kd.R_drew HO_222001.out)
                have n2_ := Aside0.mk (Kd.R_drew HO_229000.out)
                have n3_ := Aside0.mk (Kd.R_drew HO_229001.out)
                have n4_ := Aside0.mk (Kd.R_drew HO_236000.out)
                have n5_ := Aside0.mk (Kd.R_drew HO_236001.out)
                have n6_ := Aside0.mk (Kd.R_drew HO_244000.out)
                have n7_ := Aside0.mk (Kd.R_drew HO_244001.out)
                have n8_ := Aside0.mk (blk_drew BK198.out)
                have n9_ := Aside0.mk (blk_drew BK199.out)
                have n10_ := Aside0.mk (blk_drew BK221.out)
                have n11_ := Aside0.mk (blk_drew BK228.out)
                have n12_ := Aside0.mk (blk_drew BK235.out)
                have n13_ := Aside0.mk (blk_drew BK243.out)
                have n14_ := Aside0.mk (below_drew1 HB.out)
                clear HO_222000
                clear HO_222001
                clear HO_229000
                clear HO_229001
                clear HO_236000
                clear HO_236001
                clear HO_244000
                clear HO_244001
                clear BK198
                clear BK199
                clear BK221
                clear BK228
                clear BK235
                clear BK243
                clear HB
                have HO_222000 := n0_
                have HO_222001 := n1_
                have HO_229000 := n2_
                have HO_229001 := n3_
                have HO_236000 := n4_
                have HO_236001 := n5_
                have HO_244000 := n6_
                have HO_244001 := n7_
                have BK198 := n8_
                have BK199 := n9_
                have BK221 := n10_
                have BK228 := n11_
                have BK235 := n12_
                have BK243 := n13_
                have HB := n14_
                clear n0_ n1_ n2_ n3_ n4_ n5_ n6_ n7_ n8_ n9_ n10_ n11_ n12_ n13_ n14_
                refine start_ (n := 5) (S := fun w' => w'.cell? ⟨gb228, 0, none⟩ = some (.slice Ao51 t222.length co51) ∧ w'.cell? ⟨gb228, 1, none⟩ = some (.slice Ao56 t225.length co56) ∧ w'.cell? ⟨gb198, 0, none⟩ = some (.slice A0_0 l0_0.length c0_0) ∧ w'.cell? ⟨gb198, 1, none⟩ = some (.slice A0_1 l0_1.length c0_1)) (ds := []) #[false, false, false, false, false] (by kernel_rfl) rfl rfl ⟨(blk_cell BK228.out 0).trans rfl, (blk_cell BK228.out 1).trans rfl, (blk_cell BK198.out 0).trans rfl, (blk_cell BK198.out 1).trans rfl⟩ (fun hHeld => ?_)
                generalize wc.drew = w103 at HO_222000 HO_222001 HO_229000 HO_229001 HO_236000 HO_236001 HO_244000 HO_244001 BK198 BK199 BK221 BK228 BK235 BK243 HB hHeld ⊢
                refine take_ (i := 0) (N := some 54) (v := ?_) (a' := ?_) #[true, false, false, false, false] rfl rfl (by kernel_rfl) (fun _ _ _ h => h) (Or.inl ⟨by rfl, ?_⟩) hHeld ?_ ?_
                rotate_left
                · rintro w' ⟨s0, s1, s2, s3⟩
                  go_simp
                  with_reducible rfl
                rotate_left
                · simp only [Act.put, List.setIfInBounds_toArray, List.set_cons_zero, List.set_cons_succ, i64_w, i32_w]
                  rfl
                refine take_ (i := 1) (N := some 55) (v := ?_) (a' := ?_) #[true, true, false, false, false] rfl rfl (by kernel_rfl) (fun _ _ _ h => h) (Or.inl ⟨by rfl, ?_⟩) hHeld ?_ ?_
                rotate_left
                · rintro w' ⟨s0, s1, s2, s3⟩
                  go_simp
                  with_reducible rfl
                rotate_left
                · simp only [Act.put, List.setIfInBounds_toArray, List.set_cons_zero, List.set_cons_succ, i64_w, i32_w]
                  rfl
                refine one_ (i := 2) (N := some 56) #[true, true, true, false, false] rfl rfl (by kernel_rfl) (by decide) (fun K hK => ?_)
                refine goes_ Try.func25 (by kernel_rfl) rfl #[.agg #[.slice A0_0 l0_0.length c0_0, .slice A0_1 l0_1.length c0_1]] (by rfl) rfl rfl (by (try simp only [List.map_toArray, List.map_cons, List.map_nil]); first | done | rfl | (simp only [List.length_drop, List.length_take]; rfl)) ?_
                with_reducible refine (laws_toArray.calls kj24 _ _ l0_0 _ _ l0_1 t245 t248 _ ?side1 ?side2 ?side3 ?side4 A94.out).mono ?_
                (case side1 => repeat (first | exact (Kd.C_below HR0_0.out HB.out) | (with_reducible refine Kd.C_alloc ?_ _) | (with_reducible refine Kd.C_drewN ?_ _) | (with_reducible refine Kd.C_drew ?_)))
                (case side2 => exact HC0_0.out)
                (case side3 => repeat (first | exact (Kd.C_below HR0_1.out HB.out) | (with_reducible refine Kd.C_alloc ?_ _) | (with_reducible refine Kd.C_drewN ?_ _) | (with_reducible refine Kd.C_drew ?_)))
                (case side4 => exact HC0_1.out)
                rintro e w104 ⟨v246, v249, rfl, ho0, ho1, hb⟩
                refine ⟨_, rfl, ?_⟩
                have n0_ := Aside0.mk (Kd.R_mono (Kd.R_told (Kd.R_told (Kd.R_old (by (with_reducible repeat (first | apply Kd.R_alloc | apply Kd.R_drewN | apply Kd.R_drew)); exact HO_222000.out) hb) (Kd.R_base ho0)) (Kd.R_base ho1)) (fun _ h_ => h_.1))
                have n1_ := Aside0.mk (Kd.R_mono (Kd.R_told (Kd.R_told (Kd.R_old (by (with_reducible repeat (first | apply Kd.R_alloc | apply Kd.R_drewN | apply Kd.R_drew)); exact HO_222001.out) hb) (Kd.R_base ho0)) (Kd.R_base ho1)) (fun _ h_ => h_.1))
                have n2_ := Aside0.mk (Kd.R_mono (Kd.R_told (Kd.R_told (Kd.R_old (by (with_reducible repeat (first | apply Kd.R_alloc | apply Kd.R_drewN | apply Kd.R_drew)); exact HO_229000.out) hb) (Kd.R_base ho0)) (Kd.R_base ho1)) (fun _ h_ => h_.1))
                have n3_ := Aside0.mk (Kd.R_mono (Kd.R_told (Kd.R_told (Kd.R_old (by (with_reducible repeat (first | apply Kd.R_alloc | apply Kd.R_drewN | apply Kd.R_drew)); exact HO_229001.out) hb) (Kd.R_base ho0)) (Kd.R_base ho1)) (fun _ h_ => h_.1))
                have n4_ := Aside0.mk (Kd.R_mono (Kd.R_told (Kd.R_told (Kd.R_old (by (with_reducible repeat (first | apply Kd.R_alloc | apply Kd.R_drewN | apply Kd.R_drew)); exact HO_236000.out) hb) (Kd.R_base ho0)) (Kd.R_base ho1)) (fun _ h_ => h_.1))
                have n5_ := Aside0.mk (Kd.R_mono (Kd.R_told (Kd.R_told (Kd.R_old (by (with_reducible repeat (first | apply Kd.R_alloc | apply Kd.R_drewN | apply Kd.R_drew)); exact HO_236001.out) hb) (Kd.R_base ho0)) (Kd.R_base ho1)) (fun _ h_ => h_.1))
                have n6_ := Aside0.mk (Kd.R_mono (Kd.R_told (Kd.R_told (Kd.R_old (by (with_reducible repeat (first | apply Kd.R_alloc | apply Kd.R_drewN | apply Kd.R_drew)); exact HO_244000.out) hb) (Kd.R_base ho0)) (Kd.R_base ho1)) (fun _ h_ => h_.1))
                have n7_ := Aside0.mk (Kd.R_mono (Kd.R_told (Kd.R_told (Kd.R_old (by (with_reducible repeat (first | apply Kd.R_alloc | apply Kd.R_drewN | apply Kd.R_drew)); exact HO_244001.out) hb) (Kd.R_base ho0)) (Kd.R_base ho1)) (fun _ h_ => h_.1))
                have n8_ := Aside0.mk (Kd.R_lower (Kd.R_new' (Kd.R_new' (Kd.R_new' (Kd.R_new' (Kd.R_new' (Kd.R_new' (Kd.R_new' (Kd.R_new' ho0 (Kd.R_lt (by (with_reducible repeat (first | apply Kd.R_alloc | apply Kd.R_drewN | apply Kd.R_drew)); exact HO_222000.out))) (Kd.R_lt (by (with_reducible repeat (first | apply Kd.R_alloc | apply Kd.R_drewN | apply Kd.R_drew)); exact HO_222001.out))) (Kd.R_lt (by (with_reducible repeat (first | apply Kd.R_alloc | apply Kd.R_drewN | apply Kd.R_drew)); exact HO_229000.out))) (Kd.R_lt (by (with_reducible repeat (first | apply Kd.R_alloc | apply Kd.R_drewN | apply Kd.R_drew)); exact HO_229001.out))) (Kd.R_lt (by (with_reducible repeat (first | apply Kd.R_alloc | apply Kd.R_drewN | apply Kd.R_drew)); exact HO_236000.out))) (Kd.R_lt (by (with_reducible repeat (first | apply Kd.R_alloc | apply Kd.R_drewN | apply Kd.R_drew)); exact HO_236001.out))) (Kd.R_lt (by (with_reducible repeat (first | apply Kd.R_alloc | apply Kd.R_drewN | apply Kd.R_drew)); exact HO_244000.out))) (Kd.R_lt (by (with_reducible repeat (first | apply Kd.R_alloc | apply Kd.R_drewN | apply Kd.R_drew)); exact HO_244001.out))) (below_size (by repeat (first | (with_reducible first | exact HB.out | apply below_alloc | apply pw_below_drewN | apply below_drew1 | refine below_set ?_ GE198.out | refine below_set ?_ GE199.out | refine below_set ?_ GE221.out | refine below_set ?_ GE228.out | refine below_set ?_ GE235.out | refine below_set ?_ GE243.out) | exact HB.out))))
                have n9_ := Aside0.mk (Kd.R_lower (Kd.R_new' (Kd.R_new' (Kd.R_new' (Kd.R_new' (Kd.R_new' (Kd.R_new' (Kd.R_new' (Kd.R_new' ho1 (Kd.R_lt (by (with_reducible repeat (first | apply Kd.R_alloc | apply Kd.R_drewN | apply Kd.R_drew)); exact HO_222000.out))) (Kd.R_lt (by (with_reducible repeat (first | apply Kd.R_alloc | apply Kd.R_drewN | apply Kd.R_drew)); exact HO_222001.out))) (Kd.R_lt (by (with_reducible repeat (first | apply Kd.R_alloc | apply Kd.R_drewN | apply Kd.R_drew)); exact HO_229000.out))) (Kd.R_lt (by (with_reducible repeat (first | apply Kd.R_alloc | apply Kd.R_drewN | apply Kd.R_drew)); exact HO_229001.out))) (Kd.R_lt (by (with_reducible repeat (first | apply Kd.R_alloc | apply Kd.R_drewN | apply Kd.R_drew)); exact HO_236000.out))) (Kd.R_lt (by (with_reducible repeat (first | apply Kd.R_alloc | apply Kd.R_drewN | apply Kd.R_drew)); exact HO_236001.out))) (Kd.R_lt (by (with_reducible repeat (first | apply Kd.R_alloc | apply Kd.R_drewN | apply Kd.R_drew)); exact HO_244000.out))) (Kd.R_lt (by (with_reducible repeat (first | apply Kd.R_alloc | apply Kd.R_drewN | apply Kd.R_drew)); exact HO_244001.out))) (below_size (by repeat (first | (with_reducible first | exact HB.out | apply below_alloc | apply pw_below_drewN | apply below_drew1 | refine below_set ?_ GE198.out | refine below_set ?_ GE199.out | refine below_set ?_ GE221.out | refine below_set ?_ GE228.out | refine below_set ?_ GE235.out | refine below_set ?_ GE243.out) | exact HB.out))))
                have n10_ := Aside0.mk (blk_below (g := gb198) (o := .cells #[.slice A0_0 l0_0.length c0_0, .slice A0_1 l0_1.length c0_1] 37 (0, 0)) (by (with_reducible repeat (first | refine blk_drewN ?_ _ | refine blk_drew ?_ | refine blk_alloc ?_ _)); exact BK198.out) hb)
                have n11_ := Aside0.mk (blk_below (g := gb199) (o := .cells #[.slice A1_0 l1_0.length c1_0, .slice A1_1 l1_1.length c1_1] 37 (0, 0)) (by (with_reducible repeat (first | refine blk_drewN ?_ _ | refine blk_drew ?_ | refine blk_alloc ?_ _)); exact BK199.out) hb)
                have n12_ := Aside0.mk (blk_below (g := gb221) (o := .cells #[.slice Ao43 t214.length co43, .slice Ao45 t217.length co45] 26 (0, 0)) (by (with_reducible repeat (first | refine blk_drewN ?_ _ | refine blk_drew ?_ | refine blk_alloc ?_ _)); exact BK221.out) hb)
                have n13_ := Aside0.mk (blk_below (g := gb228) (o := .cells #[.slice Ao51 t222.length co51, .slice Ao56 t225.length co56] 26 (0, 0)) (by (with_reducible repeat (first | refine blk_drewN ?_ _ | refine blk_drew ?_ | refine blk_alloc ?_ _)); exact BK228.out) hb)
                have n14_ := Aside0.mk (blk_below (g := gb235) (o := .cells #[.slice Ao61 t229.length co61, .slice Ao67 t232.length co67] 26 (0, 0)) (by (with_reducible repeat (first | refine blk_drewN ?_ _ | refine blk_drew ?_ | refine blk_alloc ?_ _)); exact BK235.out) hb)
                have n15_ := Aside0.mk (blk_below (g := gb243) (o := .cells #[.slice Ao71 t236.length co71, .slice Ao78 t239.length co78] 26 (0, 0)) (by (with_reducible repeat (first | refine blk_drewN ?_ _ | refine blk_drew ?_ | refine blk_alloc ?_ _)); exact BK243.out) hb)
                have n16_ := Aside0.mk (below_step (by repeat (first | (with_reducible first | exact HB.out | apply below_alloc | apply pw_below_drewN | apply below_drew1 | refine below_set ?_ GE198.out | refine below_set ?_ GE199.out | refine below_set ?_ GE221.out | refine below_set ?_ GE228.out | refine below_set ?_ GE235.out | refine below_set ?_ GE243.out) | exact HB.out)) hb)
                clear HO_222000
                clear HO_222001
                clear HO_229000
                clear HO_229001
                clear HO_236000
                clear HO_236001
                clear HO_244000
                clear HO_244001
                clear BK198
                clear BK199
                clear BK221
                clear BK228
                clear BK235
                clear BK243
                clear HB
                have HO_222000 := n0_
                have HO_222001 := n1_
                have HO_229000 := n2_
                have HO_229001 := n3_
                have HO_236000 := n4_
                have HO_236001 := n5_
                have HO_244000 := n6_
                have HO_244001 := n7_
                have HO247 := n8_
                have HO250 := n9_
                have BK198 := n10_
                have BK199 := n11_
                have BK221 := n12_
                have BK228 := n13_
                have BK235 := n14_
                have BK243 := n15_
                have HB := n16_
                clear n0_ n1_ n2_ n3_ n4_ n5_ n6_ n7_ n8_ n9_ n10_ n11_ n12_ n13_ n14_ n15_ n16_
                (try clear hb)
                (try clear hb2)
                (try clear hk)
                (try clear hi)
                (try clear ho0)
                (try clear ho1)
                obtain ⟨Ao105, co105, eo105⟩ := Kd.R_slice HO247.out
                (first | subst eo105 | (injection eo105 with f1_ f2_ f3_; have f4_ := f1_.symm; have f5_ := f3_.symm; clear f1_ f2_ f3_; subst f4_; subst f5_))
                obtain ⟨Ao106, co106, eo106⟩ := Kd.R_slice HO250.out
                (first | subst eo106 | (injection eo106 with f1_ f2_ f3_; have f4_ := f1_.symm; have f5_ := f3_.symm; clear f1_ f2_ f3_; subst f4_; subst f5_))
                refine hK.out _ _ ⟨(blk_cell BK228.out 0).trans rfl, (blk_cell BK228.out 1).trans rfl, (blk_cell BK198.out 0).trans rfl, (blk_cell BK198.out 1).trans rfl⟩ (fun hHeld => ?_)
                clear hK K
                refine norm_ (a' := ?_) ?_ ?_
                rotate_left
                · show Act.put _ (some 56) _ = _
                  simp only [Act.put, List.setIfInBounds_toArray, List.set_cons_zero, List.set_cons_succ, i64_w, i32_w]
                  rfl
                refine one_ (i := 3) (N := some 57) #[true, true, true, true, false] rfl rfl (by kernel_rfl) (by decide) (fun K hK => ?_)
                refine goes_ Try.func28 (by kernel_rfl) rfl #[.agg #[.slice Ao51 t222.length co51, .slice Ao56 t225.length co56], .agg #[.slice Ao105 t245.length co105, .slice Ao106 t248.length co106]] (by rfl) rfl rfl (by (try simp only [List.map_toArray, List.map_cons, List.map_nil]); first | done | rfl | (simp only [List.length_drop, List.length_take]; rfl)) ?_
                with_reducible refine (laws_eqArray.calls kj24 _ _ t222 _ _ t225 _ _ t245 _ _ t248 true _ ?side1 ?side2 ?side3 ?side4 ?side5 ?side6 ?side7 ?side8 A95.out).mono ?_
                (case side1 => repeat (first | exact (Kd.R_reads' HO_229000.out).2.2 | (with_reducible refine Kd.C_alloc ?_ _) | (with_reducible refine Kd.C_drewN ?_ _) | (with_reducible refine Kd.C_drew ?_)))
                (case side2 => exact (Kd.R_reads' HO_229000.out).2.1)
                (case side3 => repeat (first | exact (Kd.R_reads' HO_229001.out).2.2 | (with_reducible refine Kd.C_alloc ?_ _) | (with_reducible refine Kd.C_drewN ?_ _) | (with_reducible refine Kd.C_drew ?_)))
                (case side4 => exact (Kd.R_reads' HO_229001.out).2.1)
                (case side5 => repeat (first | exact (Kd.R_reads' HO247.out).2.2 | (with_reducible refine Kd.C_alloc ?_ _) | (with_reducible refine Kd.C_drewN ?_ _) | (with_reducible refine Kd.C_drew ?_)))
                (case side6 => exact (Kd.R_reads' HO247.out).2.1)
                (case side7 => repeat (first | exact (Kd.R_reads' HO250.out).2.2 | (with_reducible refine Kd.C_alloc ?_ _) | (with_reducible refine Kd.C_drewN ?_ _) | (with_reducible refine Kd.C_drew ?_)))
                (case side8 => exact (Kd.R_reads' HO250.out).2.1)
                rintro e w107 ⟨rfl, hb⟩
                refine ⟨_, rfl, ?_⟩
                have n0_ := Aside0.mk (Kd.R_below (by (with_reducible repeat (first | apply Kd.R_alloc | apply Kd.R_drewN | apply Kd.R_drew)); exact HO_222000.out) hb)
                have n1_ := Aside0.mk (Kd.R_below (by (with_reducible repeat (first | apply Kd.R_alloc | apply Kd.R_drewN | apply Kd.R_drew)); exact HO_222001.out) hb)
                have n2_ := Aside0.mk (Kd.R_below (by (with_reducible repeat (first | apply Kd.R_alloc | apply Kd.R_drewN | apply Kd.R_drew)); exact HO_229000.out) hb)
                have n3_ := Aside0.mk (Kd.R_below (by (with_reducible repeat (first | apply Kd.R_alloc | apply Kd.R_drewN | apply Kd.R_drew)); exact HO_229001.out) hb)
                have n4_ := Aside0.mk (Kd.R_below (by (with_reducible repeat (first | apply Kd.R_alloc | apply Kd.R_drewN | apply Kd.R_drew)); exact HO_236000.out) hb)
                have n5_ := Aside0.mk (Kd.R_below (by (with_reducible repeat (first | apply Kd.R_alloc | apply Kd.R_drewN | apply Kd.R_drew)); exact HO_236001.out) hb)
                have n6_ := Aside0.mk (Kd.R_below (by (with_reducible repeat (first | apply Kd.R_alloc | apply Kd.R_drewN | apply Kd.R_drew)); exact HO_244000.out) hb)
                have n7_ := Aside0.mk (Kd.R_below (by (with_reducible repeat (first | apply Kd.R_alloc | apply Kd.R_drewN | apply Kd.R_drew)); exact HO_244001.out) hb)
                have n8_ := Aside0.mk (Kd.R_below (by (with_reducible repeat (first | apply Kd.R_alloc | apply Kd.R_drewN | apply Kd.R_drew)); exact HO247.out) hb)
                have n9_ := Aside0.mk (Kd.R_below (by (with_reducible repeat (first | apply Kd.R_alloc | apply Kd.R_drewN | apply Kd.R_drew)); exact HO250.out) hb)
                have n10_ := Aside0.mk (blk_below (g := gb198) (o := .cells #[.slice A0_0 l0_0.length c0_0, .slice A0_1 l0_1.length c0_1] 37 (0, 0)) (by (with_reducible repeat (first | refine blk_drewN ?_ _ | refine blk_drew ?_ | refine blk_alloc ?_ _)); exact BK198.out) hb)
                have n11_ := Aside0.mk (blk_below (g := gb199) (o := .cells #[.slice A1_0 l1_0.length c1_0, .slice A1_1 l1_1.length c1_1] 37 (0, 0)) (by (with_reducible repeat (first | refine blk_drewN ?_ _ | refine blk_drew ?_ | refine blk_alloc ?_ _)); exact BK199.out) hb)
                have n12_ := Aside0.mk (blk_below (g := gb221) (o := .cells #[.slice Ao43 t214.length co43, .slice Ao45 t217.length co45] 26 (0, 0)) (by (with_reducible repeat (first | refine blk_drewN ?_ _ | refine blk_drew ?_ | refine blk_alloc ?_ _)); exact BK221.out) hb)
                have n13_ := Aside0.mk (blk_below (g := gb228) (o := .cells #[.slice Ao51 t222.length co51, .slice Ao56 t225.length co56] 26 (0, 0)) (by (with_reducible repeat (first | refine blk_drewN ?_ _ | refine blk_drew ?_ | refine blk_alloc ?_ _)); exact BK228.out) hb)
                have n14_ := Aside0.mk (blk_below (g := gb235) (o := .cells #[.slice Ao61 t229.length co61, .slice Ao67 t232.length co67] 26 (0, 0)) (by (with_reducible repeat (first | refine blk_drewN ?_ _ | refine blk_drew ?_ | refine blk_alloc ?_ _)); exact BK235.out) hb)
                have n15_ := Aside0.mk (blk_below (g := gb243) (o := .cells #[.slice Ao71 t236.length co71, .slice Ao78 t239.length co78] 26 (0, 0)) (by (with_reducible repeat (first | refine blk_drewN ?_ _ | refine blk_drew ?_ | refine blk_alloc ?_ _)); exact BK243.out) hb)
                have n16_ := Aside0.mk (below_step (by repeat (first | (with_reducible first | exact HB.out | apply below_alloc | apply pw_below_drewN | apply below_drew1 | refine below_set ?_ GE198.out | refine below_set ?_ GE199.out | refine below_set ?_ GE221.out | refine below_set ?_ GE228.out | refine below_set ?_ GE235.out | refine below_set ?_ GE243.out) | exact HB.out)) hb)
                clear HO_222000
                clear HO_222001
                clear HO_229000
                clear HO_229001
                clear HO_236000
                clear HO_236001
                clear HO_244000
                clear HO_244001
                clear HO247
                clear HO250
                clear BK198
                clear BK199
                clear BK221
                clear BK228
                clear BK235
                clear BK243
                clear HB
                have HO_222000 := n0_
                have HO_222001 := n1_
                have HO_229000 := n2_
                have HO_229001 := n3_
                have HO_236000 := n4_
                have HO_236001 := n5_
                have HO_244000 := n6_
                have HO_244001 := n7_
                have HO247 := n8_
                have HO250 := n9_
                have BK198 := n10_
                have BK199 := n11_
                have BK221 := n12_
                have BK228 := n13_
                have BK235 := n14_
                have BK243 := n15_
                have HB := n16_
                clear n0_ n1_ n2_ n3_ n4_ n5_ n6_ n7_ n8_ n9_ n10_ n11_ n12_ n13_ n14_ n15_ n16_
                (try clear hb)
                (try clear hb2)
                (try clear hk)
                (try clear hi)
                refine hK.out _ _ ⟨(blk_cell BK228.out 0).trans rfl, (blk_cell BK228.out 1).trans rfl, (blk_cell BK198.out 0).trans rfl, (blk_cell BK198.out 1).trans rfl⟩ (fun hHeld => ?_)
                clear hK K
                refine norm_ (a' := ?_) ?_ ?_
                rotate_left
                · show Act.put _ (some 57) _ = _
                  simp only [Act.put, List.setIfInBounds_toArray, List.set_cons_zero, List.set_cons_succ, i64_w, i32_w]
                  rfl
                refine pure_ (i := 4) (N := some 58) (v := ?_) (a' := ?_) #[true, true, true, true, true] rfl rfl (by kernel_rfl) (fun _ _ _ h => h) (Or.inl ⟨by rfl, ?_⟩) ?_ ?_
                rotate_left
                · intro w'
                  go_simp
                  with_reducible rfl
                rotate_left
                · simp only [Act.put, List.setIfInBounds_toArray, List.set_cons_zero, List.set_cons_succ, i64_w, i32_w]
                  rfl
                refine done_ (by kernel_rfl) ?_
                try go_wp2
                have n0_ := Aside0.mk (Kd.R_drew HO_222000.out)
                have n1_ := Aside0.mk (Kd.R_drew HO_222001.out)
                have n2_ := Aside0.mk (Kd.R_drew HO_229000.out)
                have n3_ := Aside0.mk (Kd.R_drew HO_229001.out)
                have n4_ := Aside0.mk (Kd.R_drew HO_236000.out)
                have n5_ := Aside0.mk (Kd.R_drew HO_236001.out)
                have n6_ := Aside0.mk (Kd.R_drew HO_244000.out)
                have n7_ := Aside0.mk (Kd.R_drew HO_244001.out)
                have n8_ := Aside0.mk (Kd.R_drew HO247.out)
                have n9_ := Aside0.mk (Kd.R_drew HO250.out)
                have n10_ := Aside0.mk (blk_drew BK198.out)
                have n11_ := Aside0.mk (blk_drew BK199.out)
                have n12_ := Aside0.mk (blk_drew BK221.out)
                have n13_ := Aside0.mk (blk_drew BK228.out)
                have n14_ := Aside0.mk (blk_drew BK235.out)
                have n15_ := Aside0.mk (blk_drew BK243.out)
                have n16_ := Aside0.mk (below_drew1 HB.out)
                clear HO_222000
                clear HO_222001
                clear HO_229000
                clear HO_229001
                clear HO_236000
                clear HO_236001
                clear HO_244000
                clear HO_244001
                clear HO247
                clear HO250
                clear BK198
                clear BK199
                clear BK221
                clear BK228
                clear BK235
                clear BK243
                clear HB
                have HO_222000 := n0_
                have HO_222001 := n1_
                have HO_229000 := n2_
                have HO_229001 := n3_
                have HO_236000 := n4_
                have HO_236001 := n5_
                have HO_244000 := n6_
                have HO_244001 := n7_
                have HO247 := n8_
                have HO250 := n9_
                have BK198 := n10_
                have BK199 := n11_
                have BK221 := n12_
                have BK228 := n13_
                have BK235 := n14_
                have BK243 := n15_
                have HB := n16_
                clear n0_ n1_ n2_ n3_ n4_ n5_ n6_ n7_ n8_ n9_ n10_ n11_ n12_ n13_ n14_ n15_ n16_
                refine start_ (n := 5) (S := fun w' => w'.cell? ⟨gb235, 0, none⟩ = some (.slice Ao61 t229.length co61) ∧ w'.cell? ⟨gb235, 1, none⟩ = some (.slice Ao67 t232.length co67) ∧ w'.cell? ⟨gb199, 0, none⟩ = some (.slice A1_0 l1_0.length c1_0) ∧ w'.cell? ⟨gb199, 1, none⟩ = some (.slice A1_1 l1_1.length c1_1)) (ds := []) #[false, false, false, false, false] (by kernel_rfl) rfl rfl ⟨(blk_cell BK235.out 0).trans rfl, (blk_cell BK235.out 1).trans rfl, (blk_cell BK199.out 0).trans rfl, (blk_cell BK199.out 1).trans rfl⟩ (fun hHeld => ?_)
                generalize w107.drew = w108 at HO_222000 HO_222001 HO_229000 HO_229001 HO_236000 HO_236001 HO_244000 HO_244001 HO247 HO250 BK198 BK199 BK221 BK228 BK235 BK243 HB hHeld ⊢
                refine take_ (i := 0) (N := some 59) (v := ?_) (a' := ?_) #[true, false, false, false, false] rfl rfl (by kernel_rfl) (fun _ _ _ h => h) (Or.inl ⟨by rfl, ?_⟩) hHeld ?_ ?_
                rotate_left
                · rintro w' ⟨s0, s1, s2, s3⟩
                  go_simp
                  with_reducible rfl
                rotate_left
                · simp only [Act.put, List.setIfInBounds_toArray, List.set_cons_zero, List.set_cons_succ, i64_w, i32_w]
                  rfl
                refine take_ (i := 1) (N := some 60) (v := ?_) (a' := ?_) #[true, true, false, false, false] rfl rfl (by kernel_rfl) (fun _ _ _ h => h) (Or.inl ⟨by rfl, ?_⟩) hHeld ?_ ?_
                rotate_left
                · rintro w' ⟨s0, s1, s2, s3⟩
                  go_simp
                  with_reducible rfl
                rotate_left
                · simp only [Act.put, List.setIfInBounds_toArray, List.set_cons_zero, List.set_cons_succ, i64_w, i32_w]
                  rfl
                refine one_ (i := 2) (N := some 61) #[true, true, true, false, false] rfl rfl (by kernel_rfl) (by decide) (fun K hK => ?_)
                refine goes_ Try.func25 (by kernel_rfl) rfl #[.agg #[.slice A1_0 l1_0.length c1_0, .slice A1_1 l1_1.length c1_1]] (by rfl) rfl rfl (by (try simp only [List.map_toArray, List.map_cons, List.map_nil]); first | done | rfl | (simp only [List.length_drop, List.length_take]; rfl)) ?_
                with_reducible refine (laws_toArray.calls kj24 _ _ l1_0 _ _ l1_1 t252 t255 _ ?side1 ?side2 ?side3 ?side4 A97.out).mono ?_
                (case side1 => repeat (first | exact (Kd.C_below HR1_0.out HB.out) | (with_reducible refine Kd.C_alloc ?_ _) | (with_reducible refine Kd.C_drewN ?_ _) | (with_reducible refine Kd.C_drew ?_)))
                (case side2 => exact HC1_0.out)
                (case side3 => repeat (first | exact (Kd.C_below HR1_1.out HB.out) | (with_reducible refine Kd.C_alloc ?_ _) | (with_reducible refine Kd.C_drewN ?_ _) | (with_reducible refine Kd.C_drew ?_)))
                (case side4 => exact HC1_1.out)
                rintro e w109 ⟨v253, v256, rfl, ho0, ho1, hb⟩
                refine ⟨_, rfl, ?_⟩
                have n0_ := Aside0.mk (Kd.R_mono (Kd.R_told (Kd.R_told (Kd.R_old (by (with_reducible repeat (first | apply Kd.R_alloc | apply Kd.R_drewN | apply Kd.R_drew)); exact HO_222000.out) hb) (Kd.R_base ho0)) (Kd.R_base ho1)) (fun _ h_ => h_.1))
                have n1_ := Aside0.mk (Kd.R_mono (Kd.R_told (Kd.R_told (Kd.R_old (by (with_reducible repeat (first | apply Kd.R_alloc | apply Kd.R_drewN | apply Kd.R_drew)); exact HO_222001.out) hb) (Kd.R_base ho0)) (Kd.R_base ho1)) (fun _ h_ => h_.1))
                have n2_ := Aside0.mk (Kd.R_mono (Kd.R_told (Kd.R_told (Kd.R_old (by (with_reducible repeat (first | apply Kd.R_alloc | apply Kd.R_drewN | apply Kd.R_drew)); exact HO_229000.out) hb) (Kd.R_base ho0)) (Kd.R_base ho1)) (fun _ h_ => h_.1))
                have n3_ := Aside0.mk (Kd.R_mono (Kd.R_told (Kd.R_told (Kd.R_old (by (with_reducible repeat (first | apply Kd.R_alloc | apply Kd.R_drewN | apply Kd.R_drew)); exact HO_229001.out) hb) (Kd.R_base ho0)) (Kd.R_base ho1)) (fun _ h_ => h_.1))
                have n4_ := Aside0.mk (Kd.R_mono (Kd.R_told (Kd.R_told (Kd.R_old (by (with_reducible repeat (first | apply Kd.R_alloc | apply Kd.R_drewN | apply Kd.R_drew)); exact HO_236000.out) hb) (Kd.R_base ho0)) (Kd.R_base ho1)) (fun _ h_ => h_.1))
                have n5_ := Aside0.mk (Kd.R_mono (Kd.R_told (Kd.R_told (Kd.R_old (by (with_reducible repeat (first | apply Kd.R_alloc | apply Kd.R_drewN | apply Kd.R_drew)); exact HO_236001.out) hb) (Kd.R_base ho0)) (Kd.R_base ho1)) (fun _ h_ => h_.1))
                have n6_ := Aside0.mk (Kd.R_mono (Kd.R_told (Kd.R_told (Kd.R_old (by (with_reducible repeat (first | apply Kd.R_alloc | apply Kd.R_drewN | apply Kd.R_drew)); exact HO_244000.out) hb) (Kd.R_base ho0)) (Kd.R_base ho1)) (fun _ h_ => h_.1))
                have n7_ := Aside0.mk (Kd.R_mono (Kd.R_told (Kd.R_told (Kd.R_old (by (with_reducible repeat (first | apply Kd.R_alloc | apply Kd.R_drewN | apply Kd.R_drew)); exact HO_244001.out) hb) (Kd.R_base ho0)) (Kd.R_base ho1)) (fun _ h_ => h_.1))
                have n8_ := Aside0.mk (Kd.R_mono (Kd.R_told (Kd.R_told (Kd.R_old (by (with_reducible repeat (first | apply Kd.R_alloc | apply Kd.R_drewN | apply Kd.R_drew)); exact HO247.out) hb) (Kd.R_base ho0)) (Kd.R_base ho1)) (fun _ h_ => h_.1))
                have n9_ := Aside0.mk (Kd.R_mono (Kd.R_told (Kd.R_told (Kd.R_old (by (with_reducible repeat (first | apply Kd.R_alloc | apply Kd.R_drewN | apply Kd.R_drew)); exact HO250.out) hb) (Kd.R_base ho0)) (Kd.R_base ho1)) (fun _ h_ => h_.1))
                rename_i h1_52 h1_78 h1_92 h1_109 h1_163 h1_164 h1_165 h1_166 h1_167 h1_168 h1_169 h1_330 h1_336 h1_338 h1_339 h1_340 h1_341 h1_342
                revert k A0_0 c0_0 l0_0 A0_1 c0_1 l0_1 A1_0 c1_0 l1_0 A1_1 c1_1 l1_1 r w HT hu37 hu26 HR0_0 HC0_0 HR0_1 HC0_1 HR1_0 HC1_0 HR1_1 HC1_1 t200 A3 c4b0 t201 A10 c11b0 t202 t205 A19 t208 t211 A20 t214 t217 t220 A21 t222 t225 A22 t229 t232 A23 t236 t239 t242 A24 h1_52 gb198 w26 GW198 GE198 gb199 w27 GW199 GE199 NB198_199 NB199_198 hnb28 hnc28 hcz29_0 hcz29_1 hfz29_0 hfz29_1 w30 hcz31_0 hcz31_1 hfz31_0 hfz31_1 w32 HT_ HW_ w33 h1_78 v203 v206 v209 v212 gb221 w42 hS_ GW221 GE221 NB198_221 NB221_198 NB199_221 NB221_199 h1_92 Ao43 co43 Ao45 co45 hs44 hfs44 hns44_0 hns44_1 hms44_0 hms44_1 hs46 hfs46 hns46_0 hns46_1 hms46_0 hms46_1 h1_109 hnb47 hnc47 w49 gb228 w50 GW228 GE228 NB198_228 NB228_198 NB199_228 NB228_199 NB221_228 NB228_221 Ao51 co51 hnb52 hnc52 hnb53 hnc53 hnb54 hnc54 Ao56 co56 hnb57 hnc57 w59 gb235 w60 GW235 GE235 NB198_235 NB235_198 NB199_235 NB235_199 NB221_235 NB235_221 NB228_235 NB235_228 Ao61 co61 hnb62 hnc62 hnb63 hnc63 hnb64 hnc64 hnb65 hnc65 Ao67 co67 w69 gb243 w70 h1_163 h1_164 h1_165 h1_166 h1_167 h1_168 h1_169 GW243 GE243 NB198_243 NB243_198 NB199_243 NB243_199 NB221_243 NB243_221 NB228_243 NB243_228 NB235_243 NB243_235 Ao71 co71 hnb72 hnc72 hnb73 hnc73 hnb74 hnc74 hnb75 hnc75 hnb76 hnc76 Ao78 co78 HO204 HO207 HO210 HO213 HO216 HO219 HO224 HO227 HO231 HO234 HO238 HO241 wc u17 u18 u19 u20 u21 u22 u23 u24 u25 u26 u27 u28 u29 u30 u31 u32 u33 u34 u35 u36 u37 u38 u39 u40 u41 u42 u43 u44 u45 u46 u47 u48 u49 u50 u51 u52 u54 u55 u56 u57 u58 u59 u60 u61 u62 u63 u64 u65 u66 u67 u68 u69 u70 u71 u72 u73 u74 u75 u76 u77 u78 u79 u80 u81 u82 u83 u84 u85 u86 u87 u88 u89 u90 u91 u92 u93 u94 u95 u96 u97 u98 u99 u100 u101 u102 u103 u104 u105 u106 u107 u108 u109 u110 u111 u112 u113 u114 u115 u116 u117 u118 kj24 HJ24 t245 t248 A94 A95 t252 t255 A97 A98 t259 t260 t261 A100 t262 t263 t264 A101 HC102 w103 h1_330 w104 Ao105 co105 Ao106 co106 h1_336 w107 h1_338 h1_339 h1_340 h1_341 h1_342 w108 HO_222000 HO_222001 HO_229000 HO_229001 HO_236000 HO_236001 HO_244000 HO_244001 HO247 HO250 BK198 BK199 BK221 BK228 BK235 BK243 HB hHeld K hK w109 v253 v256 ho0 ho1 hb n0_ n1_ n2_ n3_ n4_ n5_ n6_ n7_ n8_ n9_
                exact hRest_ trivial
              · replace c99 := Bool.eq_false_iff.mpr c99
                subst c99
                have H1 : (some false) = some r := by rw [if_neg (show ¬ (false = true) by decide)] at H; exact H
                clear H
                have H := H1
                clear H1
                obtain rfl := Option.some.inj H
                exact absurd HT.out (by decide)
            · replace c96 := Bool.eq_false_iff.mpr c96
              subst c96
              have H1 : (some false) = some r := by rw [if_neg (show ¬ (false = true) by decide)] at H; exact H
              clear H
              have H := H1
              clear H1
              obtain rfl := Option.some.inj H
              exact absurd HT.out (by decide)⟩
end Go.Proofs.Ytlaikodjcjfeiaa.PFnExactReshape
