/- The walk of what a law reaches, for the law's row: written by a program of this session; it has no condition of its own. -/
import Derived.Test.YtlaikodjcjfeiaaPFnExactIotax0
import Derived.Test.YtlaikodjcjfeiaaPFnExactIotax1
import Derived.Test.YtlaikodjcjfeiaaPFnExactIotax2
import Derived.Test.YtlaikodjcjfeiaaPFnExactIotax3
namespace Go.Proofs.Ytlaikodjcjfeiaa.PFnExactIota
open Go.RowKit Go.Proofs.YtlaikodjcjfeiaaW.PrintWords Go.Proofs.YtlaikodjcjfeiaaW.PrintLast Go.Proofs.YtlaikodjcjfeiaaW.PrintMore
attribute [local go_sem] max2_int min2_int max_two min_two max_three min_three max_four min_four   -- for this text's walks alone
set_option linter.unusedVariables false
set_option linter.unusedSimpArgs false

/-! ### laws_FnExactIota: function 7 -/
mutual
def laws_FnExactIota.j0 : Nat → Int → Int → Bool → List Int → List Int → List Int → List Int → List Int → List Int → List Int → List Int → Option (Bool)
  | 0, _, _, _, _, _, _, _, _, _, _, _ => none
  | k + 1, x5, x8, x40, x205000, x205001, x220000, x220001, x227000, x227001, x235000, x235001 => if x40 = true then (some false) else ((laws_toArray.f k x205000 x205001).bind fun bt236 => ((laws_eqArray.f k x227000 x227001 bt236.1 bt236.2).bind fun t242 => (if t242 = true then ((laws_markArray.f k x227000 x227001 1).bind fun bt243 => (if bt243.1 < 0 then (laws_FnExactIota.j1 k x5 true x205000 x205001 x220000 x220001 x235000 x235001) else ((laws_eqArray.f k x235000 x235001 x220000 x220001).bind fun t246 => (if t246 = true then (laws_FnExactIota.j1 k x5 (x8 != x5) x205000 x205001 x220000 x220001 x235000 x235001) else (laws_FnExactIota.j1 k x5 true x205000 x205001 x220000 x220001 x235000 x235001))))) else (some false))))
def laws_FnExactIota.j1 : Nat → Int → Bool → List Int → List Int → List Int → List Int → List Int → List Int → Option (Bool)
  | 0, _, _, _, _, _, _, _, _ => none
  | k + 1, x5, x61, x205000, x205001, x220000, x220001, x235000, x235001 => if x61 = true then (some false) else ((laws_markArray.f k x235000 x235001 1).bind fun bt247 => ((laws_heldArray.f k bt247.2.1 bt247.2.2 1).bind fun t250 => (if t250 < 0 then (some false) else (if t250 = bt247.1 then ((laws_toArray.f k x205000 x205001).bind fun bt251 => ((impl_Iota.f k bt251.1 bt251.2).bind fun bt257 => ((laws_eqArray.f k bt257.1 bt257.2.1 x220000 x220001).bind fun t265 => (if t265 = true then (laws_FnExactIota.j2 k bt247.1 (bt257.2.2 != x5) bt247.2.1 bt247.2.2) else (laws_FnExactIota.j2 k bt247.1 true bt247.2.1 bt247.2.2))))) else (some false)))))
def laws_FnExactIota.j2 : Nat → Int → Bool → List Int → List Int → Option (Bool)
  | 0, _, _, _, _ => none
  | k + 1, x10, x87, x235000, x235001 => if x87 = true then (some false) else ((laws_heldArray.f k x235000 x235001 1).bind fun t266 => (if t266 < 0 then (some false) else (if t266 = x10 then (some true) else (some false))))
end
def laws_FnExactIota.f (k : Nat) (l0_0 : List Int) (l0_1 : List Int) : Option (Bool) := (laws_szArray.f l0_0 l0_1 1048576).bind fun t205 => (if t205 < 0 then (some true) else ((laws_toArray.f k l0_0 l0_1).bind fun bt206 => ((spec_Iota.f k bt206.1 bt206.2).bind fun bt212 => ((laws_toArray.f k l0_0 l0_1).bind fun bt220 => ((impl_Iota.f k bt220.1 bt220.2).bind fun bt227 => ((laws_eqArray.f k bt227.1 bt227.2.1 bt212.1 bt212.2.1).bind fun t235 => (if t235 = true then (laws_FnExactIota.j0 k bt212.2.2 bt227.2.2 (bt227.2.2 != bt212.2.2) l0_0 l0_1 bt212.1 bt212.2.1 bt220.1 bt220.2 bt227.1 bt227.2.1) else (laws_FnExactIota.j0 k bt212.2.2 bt227.2.2 true l0_0 l0_1 bt212.1 bt212.2.1 bt220.1 bt220.2 bt227.1 bt227.2.1))))))))
theorem laws_FnExactIota.mono_l : ∀ k, (∀ y0 y1 y2 y3 y4 y5 y6 y7 y8 y9 y10, LeO (laws_FnExactIota.j0 k y0 y1 y2 y3 y4 y5 y6 y7 y8 y9 y10) (laws_FnExactIota.j0 (k + 1) y0 y1 y2 y3 y4 y5 y6 y7 y8 y9 y10)) ∧ (∀ y0 y1 y2 y3 y4 y5 y6 y7, LeO (laws_FnExactIota.j1 k y0 y1 y2 y3 y4 y5 y6 y7) (laws_FnExactIota.j1 (k + 1) y0 y1 y2 y3 y4 y5 y6 y7)) ∧ (∀ y0 y1 y2 y3, LeO (laws_FnExactIota.j2 k y0 y1 y2 y3) (laws_FnExactIota.j2 (k + 1) y0 y1 y2 y3))
  | 0 => ⟨fun _ _ _ _ _ _ _ _ _ _ _ r h => by simp [laws_FnExactIota.j0] at h, fun _ _ _ _ _ _ _ _ r h => by simp [laws_FnExactIota.j1] at h, fun _ _ _ _ r h => by simp [laws_FnExactIota.j2] at h⟩
  | k + 1 => by
    obtain ⟨ih0, ih1, ih2⟩ := laws_FnExactIota.mono_l k
    refine ⟨?_, ?_, ?_⟩
    · intro y0 y1 y2 y3 y4 y5 y6 y7 y8 y9 y10
      unfold laws_FnExactIota.j0
      repeat' first
      | (with_reducible exact ih0 _ _ _ _ _ _ _ _ _ _ _)
      | (with_reducible exact ih1 _ _ _ _ _ _ _ _)
      | (with_reducible exact ih2 _ _ _ _)
      | (with_reducible exact impl_Iota.mono _ _ _)
      | (with_reducible exact laws_eqArray.mono _ _ _ _ _)
      | (with_reducible exact laws_heldArray.mono _ _ _ _)
      | (with_reducible exact laws_markArray.mono _ _ _ _)
      | (with_reducible exact laws_toArray.mono _ _ _)
      | (with_reducible exact spec_Iota.mono _ _ _)
      | (with_reducible exact LeO.refl _)
      | (with_reducible exact LeO.none _)
      | (with_reducible refine LeO.ite ?_ ?_)
      | (with_reducible refine LeO.bind ?_ (fun _ => ?_))
      | exact ih0 _ _ _ _ _ _ _ _ _ _ _
      | exact ih1 _ _ _ _ _ _ _ _
      | exact ih2 _ _ _ _
      | exact impl_Iota.mono _ _ _
      | exact laws_eqArray.mono _ _ _ _ _
      | exact laws_heldArray.mono _ _ _ _
      | exact laws_markArray.mono _ _ _ _
      | exact laws_toArray.mono _ _ _
      | exact spec_Iota.mono _ _ _
      | exact LeO.none _
      | refine LeO.ite ?_ ?_
      | refine LeO.bind ?_ (fun _ => ?_)
    · intro y0 y1 y2 y3 y4 y5 y6 y7
      unfold laws_FnExactIota.j1
      repeat' first
      | (with_reducible exact ih0 _ _ _ _ _ _ _ _ _ _ _)
      | (with_reducible exact ih1 _ _ _ _ _ _ _ _)
      | (with_reducible exact ih2 _ _ _ _)
      | (with_reducible exact impl_Iota.mono _ _ _)
      | (with_reducible exact laws_eqArray.mono _ _ _ _ _)
      | (with_reducible exact laws_heldArray.mono _ _ _ _)
      | (with_reducible exact laws_markArray.mono _ _ _ _)
      | (with_reducible exact laws_toArray.mono _ _ _)
      | (with_reducible exact spec_Iota.mono _ _ _)
      | (with_reducible exact LeO.refl _)
      | (with_reducible exact LeO.none _)
      | (with_reducible refine LeO.ite ?_ ?_)
      | (with_reducible refine LeO.bind ?_ (fun _ => ?_))
      | exact ih0 _ _ _ _ _ _ _ _ _ _ _
      | exact ih1 _ _ _ _ _ _ _ _
      | exact ih2 _ _ _ _
      | exact impl_Iota.mono _ _ _
      | exact laws_eqArray.mono _ _ _ _ _
      | exact laws_heldArray.mono _ _ _ _
      | exact laws_markArray.mono _ _ _ _
      | exact laws_toArray.mono _ _ _
      | exact spec_Iota.mono _ _ _
      | exact LeO.none _
      | refine LeO.ite ?_ ?_
      | refine LeO.bind ?_ (fun _ => ?_)
    · intro y0 y1 y2 y3
      unfold laws_FnExactIota.j2
      repeat' first
      | (with_reducible exact ih0 _ _ _ _ _ _ _ _ _ _ _)
      | (with_reducible exact ih1 _ _ _ _ _ _ _ _)
      | (with_reducible exact ih2 _ _ _ _)
      | (with_reducible exact impl_Iota.mono _ _ _)
      | (with_reducible exact laws_eqArray.mono _ _ _ _ _)
      | (with_reducible exact laws_heldArray.mono _ _ _ _)
      | (with_reducible exact laws_markArray.mono _ _ _ _)
      | (with_reducible exact laws_toArray.mono _ _ _)
      | (with_reducible exact spec_Iota.mono _ _ _)
      | (with_reducible exact LeO.refl _)
      | (with_reducible exact LeO.none _)
      | (with_reducible refine LeO.ite ?_ ?_)
      | (with_reducible refine LeO.bind ?_ (fun _ => ?_))
      | exact ih0 _ _ _ _ _ _ _ _ _ _ _
      | exact ih1 _ _ _ _ _ _ _ _
      | exact ih2 _ _ _ _
      | exact impl_Iota.mono _ _ _
      | exact laws_eqArray.mono _ _ _ _ _
      | exact laws_heldArray.mono _ _ _ _
      | exact laws_markArray.mono _ _ _ _
      | exact laws_toArray.mono _ _ _
      | exact spec_Iota.mono _ _ _
      | exact LeO.none _
      | refine LeO.ite ?_ ?_
      | refine LeO.bind ?_ (fun _ => ?_)
theorem laws_FnExactIota.mono : ∀ a0 a1 k, LeO (laws_FnExactIota.f k a0 a1) (laws_FnExactIota.f (k + 1) a0 a1) := by
  intro a0 a1 k
  obtain ⟨ih0, ih1, ih2⟩ := laws_FnExactIota.mono_l k
  unfold laws_FnExactIota.f
  repeat' first
      | (with_reducible exact ih0 _ _ _ _ _ _ _ _ _ _ _)
      | (with_reducible exact ih1 _ _ _ _ _ _ _ _)
      | (with_reducible exact ih2 _ _ _ _)
      | (with_reducible exact impl_Iota.mono _ _ _)
      | (with_reducible exact laws_eqArray.mono _ _ _ _ _)
      | (with_reducible exact laws_heldArray.mono _ _ _ _)
      | (with_reducible exact laws_markArray.mono _ _ _ _)
      | (with_reducible exact laws_toArray.mono _ _ _)
      | (with_reducible exact spec_Iota.mono _ _ _)
      | (with_reducible exact LeO.refl _)
      | (with_reducible exact LeO.none _)
      | (with_reducible refine LeO.ite ?_ ?_)
      | (with_reducible refine LeO.bind ?_ (fun _ => ?_))
      | exact ih0 _ _ _ _ _ _ _ _ _ _ _
      | exact ih1 _ _ _ _ _ _ _ _
      | exact ih2 _ _ _ _
      | exact impl_Iota.mono _ _ _
      | exact laws_eqArray.mono _ _ _ _ _
      | exact laws_heldArray.mono _ _ _ _
      | exact laws_markArray.mono _ _ _ _
      | exact laws_toArray.mono _ _ _
      | exact spec_Iota.mono _ _ _
      | exact LeO.none _
      | refine LeO.ite ?_ ?_
      | refine LeO.bind ?_ (fun _ => ?_)
set_option maxHeartbeats 8000000 in
set_option maxRecDepth 100000 in
theorem laws_FnExactIota.calls (k : Nat) (A0_0 : Option Addr) (c0_0 : Nat) (l0_0 : List Int) (A0_1 : Option Addr) (c0_1 : Nat) (l0_1 : List Int) (r : Bool) (w : World) (hr0_0 : Kd.C (Kd.int .i64) w A0_0 l0_0.length l0_0) (hc0_0 : l0_0.length ≤ c0_0) (hr0_1 : Kd.C (Kd.int .i64) w A0_1 l0_1.length l0_1) (hc0_1 : l0_1.length ≤ c0_1) (h : laws_FnExactIota.f k l0_0 l0_1 = some r) (hT : r = true) :
    Calls Try.prog 7 #[.agg #[.slice A0_0 l0_0.length c0_0, .slice A0_1 l0_1.length c0_1]] w fun e w' => e = .returned (.bool r) ∧ Below w.heap.size w w' := by
  have HT := Aside0.mk hT
  clear hT
  have hu37 := Try.underlying37
  have hu26 := Try.underlying26
  have HR0_0 := Aside0.mk hr0_0
  have HC0_0 := Aside0.mk hc0_0
  clear hr0_0 hc0_0
  have HR0_1 := Aside0.mk hr0_1
  have HC0_1 := Aside0.mk hc0_1
  clear hr0_1 hc0_1
  have HB := Aside0.mk (Below.refl w.heap.size w)
  have H : ((laws_szArray.f l0_0 l0_1 1048576).bind fun t205 => (if t205 < 0 then (some true) else ((laws_toArray.f k l0_0 l0_1).bind fun bt206 => ((spec_Iota.f k bt206.1 bt206.2).bind fun bt212 => ((laws_toArray.f k l0_0 l0_1).bind fun bt220 => ((impl_Iota.f k bt220.1 bt220.2).bind fun bt227 => ((laws_eqArray.f k bt227.1 bt227.2.1 bt212.1 bt212.2.1).bind fun t235 => (if t235 = true then (laws_FnExactIota.j0 k bt212.2.2 bt227.2.2 (bt227.2.2 != bt212.2.2) l0_0 l0_1 bt212.1 bt212.2.1 bt220.1 bt220.2 bt227.1 bt227.2.1) else (laws_FnExactIota.j0 k bt212.2.2 bt227.2.2 true l0_0 l0_1 bt212.1 bt212.2.1 bt220.1 bt220.2 bt227.1 bt227.2.1))))))))) = some r := h
  clear h
  replace H := Option.bind_eq_some_iff.mp H
  obtain ⟨t205, A20, H⟩ := H
  replace H : (if t205 < 0 then (some true) else ((laws_toArray.f k l0_0 l0_1).bind fun bt206 => ((spec_Iota.f k bt206.1 bt206.2).bind fun bt212 => ((laws_toArray.f k l0_0 l0_1).bind fun bt220 => ((impl_Iota.f k bt220.1 bt220.2).bind fun bt227 => ((laws_eqArray.f k bt227.1 bt227.2.1 bt212.1 bt212.2.1).bind fun t235 => (if t235 = true then (laws_FnExactIota.j0 k bt212.2.2 bt227.2.2 (bt227.2.2 != bt212.2.2) l0_0 l0_1 bt212.1 bt212.2.1 bt220.1 bt220.2 bt227.1 bt227.2.1) else (laws_FnExactIota.j0 k bt212.2.2 bt227.2.2 true l0_0 l0_1 bt212.1 bt212.2.1 bt220.1 bt220.2 bt227.1 bt227.2.1)))))))) = some r := H
  have A2 := Aside0.mk A20
  clear A20
  by_cases c3 : t205 < 0
  · rw [if_pos c3] at H
    have c3b0 : decide (t205 < 0) = true := decide_eq_true c3
    clear c3
    obtain rfl := Option.some.inj H
    go_enter Try.func7, Try.ntmps7
    go_wp2_with (first | ((with_reducible refine gate_dst (N := 1) rfl ?_); refine box_event ?hg (N := 1) ?hd (cs := #[.slice A0_0 l0_0.length c0_0, .slice A0_1 l0_1.length c0_1]) (t := 37) ?hr ?_; (case hd => rfl); (case hg => rfl); (case hr => first | (go_simp; done) | (go_simp; rfl)); intro gb204 hg w4 hbox hb; have n0_ := Aside0.mk (below_step (by repeat (first | (with_reducible first | exact HB.out | apply below_alloc | apply pw_below_drewN | apply below_drew1) | exact HB.out)) hb); have n1_ := Aside0.mk (hbox); have n2_ := Aside0.mk ((by rw [hg]; exact (below_size (by repeat (first | (with_reducible first | exact HB.out | apply below_alloc | apply pw_below_drewN | apply below_drew1) | exact HB.out))) : w.heap.size ≤ gb204)); have n3_ := Aside0.mk ((by rw [hg]; exact (below_size (by repeat (first | (with_reducible first | exact HB.out | apply below_alloc | apply pw_below_drewN | apply below_drew1) | exact HB.out))) : w.heap.size ≤ gb204)); clear HB; have HB := n0_; have BK204 := n1_; have GW204 := n2_; have GE204 := n3_; clear n0_ n1_ n2_ n3_; clear hb hbox hg; have hcz5_0 : w4.cell? ⟨gb204, 0, none⟩ = some (.slice A0_0 l0_0.length c0_0) := (blk_cell BK204.out 0).trans rfl; have hcz5_1 : w4.cell? ⟨gb204, 1, none⟩ = some (.slice A0_1 l0_1.length c0_1) := (blk_cell BK204.out 1).trans rfl; have hfz5_0 := blk_frozen BK204.out 0; have hfz5_1 := blk_frozen BK204.out 1) | ((with_reducible refine gate_callee (f := 23) rfl ?_); refine goesL_ (some 16) rfl rfl Try.func23 (by kernel_rfl) rfl #[.agg #[.slice A0_0 l0_0.length c0_0, .slice A0_1 l0_1.length c0_1], .int .i64 1048576] rfl (by (try simp only [List.map_toArray, List.map_cons, List.map_nil]); first | done | rfl | (simp only [List.length_drop, List.length_take]; rfl)) ?_; (with_reducible refine (laws_szArray.calls _ _ l0_0 _ _ l0_1 1048576 t205 _ ?side1 ?side2 ?side3 ?side4 A2.out).mono ?_); (case side1 => repeat (first | exact (Kd.C_below HR0_0.out HB.out) | (with_reducible refine Kd.C_alloc ?_ _) | (with_reducible refine Kd.C_drewN ?_ _) | (with_reducible refine Kd.C_drew ?_))); (case side2 => exact HC0_0.out); (case side3 => repeat (first | exact (Kd.C_below HR0_1.out HB.out) | (with_reducible refine Kd.C_alloc ?_ _) | (with_reducible refine Kd.C_drewN ?_ _) | (with_reducible refine Kd.C_drew ?_))); (case side4 => exact HC0_1.out); rintro e w6 ⟨rfl, hb⟩; refine ⟨_, rfl, ?_⟩; have n0_ := Aside0.mk (blk_below (g := gb204) (o := .cells #[.slice A0_0 l0_0.length c0_0, .slice A0_1 l0_1.length c0_1] 37 (0, 0)) (by (with_reducible repeat (first | refine blk_drewN ?_ _ | refine blk_drew ?_ | refine blk_alloc ?_ _)); exact BK204.out) hb); have n1_ := Aside0.mk (below_step (by repeat (first | (with_reducible first | exact HB.out | apply below_alloc | apply pw_below_drewN | apply below_drew1 | refine below_set ?_ GE204.out) | exact HB.out)) hb); clear BK204; clear HB; have BK204 := n0_; have HB := n1_; clear n0_ n1_; (try clear hb); (try clear hb2); (try clear hk); (try clear hi)))
    go_ret
    exact ⟨by first | rfl | (simp [errW_none, errW_some] <;> rfl) | (simp [*, errW_none, errW_some] <;> rfl), by repeat (first | (with_reducible first | exact HB.out | apply below_alloc | apply pw_below_drewN | apply below_drew1 | refine below_set ?_ GE204.out) | exact HB.out)⟩
  · rw [if_neg c3] at H
    have c3b0 : decide (t205 < 0) = false := decide_eq_false c3
    clear c3
    replace H := Option.bind_eq_some_iff.mp H
    obtain ⟨⟨t206, t209⟩, A70, H⟩ := H
    replace H : ((spec_Iota.f k t206 t209).bind fun bt212 => ((laws_toArray.f k l0_0 l0_1).bind fun bt220 => ((impl_Iota.f k bt220.1 bt220.2).bind fun bt227 => ((laws_eqArray.f k bt227.1 bt227.2.1 bt212.1 bt212.2.1).bind fun t235 => (if t235 = true then (laws_FnExactIota.j0 k bt212.2.2 bt227.2.2 (bt227.2.2 != bt212.2.2) l0_0 l0_1 bt212.1 bt212.2.1 bt220.1 bt220.2 bt227.1 bt227.2.1) else (laws_FnExactIota.j0 k bt212.2.2 bt227.2.2 true l0_0 l0_1 bt212.1 bt212.2.1 bt220.1 bt220.2 bt227.1 bt227.2.1)))))) = some r := H
    have A7 := Aside0.mk A70
    clear A70
    replace H := Option.bind_eq_some_iff.mp H
    obtain ⟨⟨t212, t215, t218⟩, A80, H⟩ := H
    replace H : ((laws_toArray.f k l0_0 l0_1).bind fun bt220 => ((impl_Iota.f k bt220.1 bt220.2).bind fun bt227 => ((laws_eqArray.f k bt227.1 bt227.2.1 t212 t215).bind fun t235 => (if t235 = true then (laws_FnExactIota.j0 k t218 bt227.2.2 (bt227.2.2 != t218) l0_0 l0_1 t212 t215 bt220.1 bt220.2 bt227.1 bt227.2.1) else (laws_FnExactIota.j0 k t218 bt227.2.2 true l0_0 l0_1 t212 t215 bt220.1 bt220.2 bt227.1 bt227.2.1))))) = some r := H
    have A8 := Aside0.mk A80
    clear A80
    replace H := Option.bind_eq_some_iff.mp H
    obtain ⟨⟨t220, t223⟩, A90, H⟩ := H
    replace H : ((impl_Iota.f k t220 t223).bind fun bt227 => ((laws_eqArray.f k bt227.1 bt227.2.1 t212 t215).bind fun t235 => (if t235 = true then (laws_FnExactIota.j0 k t218 bt227.2.2 (bt227.2.2 != t218) l0_0 l0_1 t212 t215 t220 t223 bt227.1 bt227.2.1) else (laws_FnExactIota.j0 k t218 bt227.2.2 true l0_0 l0_1 t212 t215 t220 t223 bt227.1 bt227.2.1)))) = some r := H
    have A9 := Aside0.mk A90
    clear A90
    replace H := Option.bind_eq_some_iff.mp H
    obtain ⟨⟨t227, t230, t233⟩, A100, H⟩ := H
    replace H : ((laws_eqArray.f k t227 t230 t212 t215).bind fun t235 => (if t235 = true then (laws_FnExactIota.j0 k t218 t233 (t233 != t218) l0_0 l0_1 t212 t215 t220 t223 t227 t230) else (laws_FnExactIota.j0 k t218 t233 true l0_0 l0_1 t212 t215 t220 t223 t227 t230))) = some r := H
    have A10 := Aside0.mk A100
    clear A100
    have HC11 := Aside0.mk H
    clear H
    go_enter Try.func7, Try.ntmps7
    go_upto_region 8 with (first | ((with_reducible refine gate_dst (N := 1) rfl ?_); refine box_event ?hg (N := 1) ?hd (cs := #[.slice A0_0 l0_0.length c0_0, .slice A0_1 l0_1.length c0_1]) (t := 37) ?hr ?_; (case hd => rfl); (case hg => rfl); (case hr => first | (go_simp; done) | (go_simp; rfl)); intro gb204 hg w12 hbox hb; have n0_ := Aside0.mk (below_step (by repeat (first | (with_reducible first | exact HB.out | apply below_alloc | apply pw_below_drewN | apply below_drew1) | exact HB.out)) hb); have n1_ := Aside0.mk (hbox); have n2_ := Aside0.mk ((by rw [hg]; exact (below_size (by repeat (first | (with_reducible first | exact HB.out | apply below_alloc | apply pw_below_drewN | apply below_drew1) | exact HB.out))) : w.heap.size ≤ gb204)); have n3_ := Aside0.mk ((by rw [hg]; exact (below_size (by repeat (first | (with_reducible first | exact HB.out | apply below_alloc | apply pw_below_drewN | apply below_drew1) | exact HB.out))) : w.heap.size ≤ gb204)); clear HB; have HB := n0_; have BK204 := n1_; have GW204 := n2_; have GE204 := n3_; clear n0_ n1_ n2_ n3_; clear hb hbox hg; have hcz13_0 : w12.cell? ⟨gb204, 0, none⟩ = some (.slice A0_0 l0_0.length c0_0) := (blk_cell BK204.out 0).trans rfl; have hcz13_1 : w12.cell? ⟨gb204, 1, none⟩ = some (.slice A0_1 l0_1.length c0_1) := (blk_cell BK204.out 1).trans rfl; have hfz13_0 := blk_frozen BK204.out 0; have hfz13_1 := blk_frozen BK204.out 1) | ((with_reducible refine gate_callee (f := 23) rfl ?_); refine goesL_ (some 16) rfl rfl Try.func23 (by kernel_rfl) rfl #[.agg #[.slice A0_0 l0_0.length c0_0, .slice A0_1 l0_1.length c0_1], .int .i64 1048576] rfl (by (try simp only [List.map_toArray, List.map_cons, List.map_nil]); first | done | rfl | (simp only [List.length_drop, List.length_take]; rfl)) ?_; (with_reducible refine (laws_szArray.calls _ _ l0_0 _ _ l0_1 1048576 t205 _ ?side1 ?side2 ?side3 ?side4 A2.out).mono ?_); (case side1 => repeat (first | exact (Kd.C_below HR0_0.out HB.out) | (with_reducible refine Kd.C_alloc ?_ _) | (with_reducible refine Kd.C_drewN ?_ _) | (with_reducible refine Kd.C_drew ?_))); (case side2 => exact HC0_0.out); (case side3 => repeat (first | exact (Kd.C_below HR0_1.out HB.out) | (with_reducible refine Kd.C_alloc ?_ _) | (with_reducible refine Kd.C_drewN ?_ _) | (with_reducible refine Kd.C_drew ?_))); (case side4 => exact HC0_1.out); rintro e w14 ⟨rfl, hb⟩; refine ⟨_, rfl, ?_⟩; have n0_ := Aside0.mk (blk_below (g := gb204) (o := .cells #[.slice A0_0 l0_0.length c0_0, .slice A0_1 l0_1.length c0_1] 37 (0, 0)) (by (with_reducible repeat (first | refine blk_drewN ?_ _ | refine blk_drew ?_ | refine blk_alloc ?_ _)); exact BK204.out) hb); have n1_ := Aside0.mk (below_step (by repeat (first | (with_reducible first | exact HB.out | apply below_alloc | apply pw_below_drewN | apply below_drew1 | refine below_set ?_ GE204.out) | exact HB.out)) hb); clear BK204; clear HB; have BK204 := n0_; have HB := n1_; clear n0_ n1_; (try clear hb); (try clear hb2); (try clear hk); (try clear hi); have hcz15_0 : w14.cell? ⟨gb204, 0, none⟩ = some (.slice A0_0 l0_0.length c0_0) := (blk_cell BK204.out 0).trans rfl; have hcz15_1 : w14.cell? ⟨gb204, 1, none⟩ = some (.slice A0_1 l0_1.length c0_1) := (blk_cell BK204.out 1).trans rfl; have hfz15_0 := blk_frozen BK204.out 0; have hfz15_1 := blk_frozen BK204.out 1) | ((with_reducible refine gate_callee (f := 25) rfl ?_); refine goesL_ (some 21) rfl rfl Try.func25 (by kernel_rfl) rfl #[.agg #[.slice A0_0 l0_0.length c0_0, .slice A0_1 l0_1.length c0_1]] rfl (by (try simp only [List.map_toArray, List.map_cons, List.map_nil]); first | done | rfl | (simp only [List.length_drop, List.length_take]; rfl)) ?_; (with_reducible refine (laws_toArray.calls k _ _ l0_0 _ _ l0_1 t206 t209 _ ?side1 ?side2 ?side3 ?side4 A7.out).mono ?_); (case side1 => repeat (first | exact (Kd.C_below HR0_0.out HB.out) | (with_reducible refine Kd.C_alloc ?_ _) | (with_reducible refine Kd.C_drewN ?_ _) | (with_reducible refine Kd.C_drew ?_))); (case side2 => exact HC0_0.out); (case side3 => repeat (first | exact (Kd.C_below HR0_1.out HB.out) | (with_reducible refine Kd.C_alloc ?_ _) | (with_reducible refine Kd.C_drewN ?_ _) | (with_reducible refine Kd.C_drew ?_))); (case side4 => exact HC0_1.out); rintro e w16 ⟨v207, v210, rfl, ho0, ho1, hb⟩; refine ⟨_, rfl, ?_⟩; have n0_ := Aside0.mk (Kd.R_lower ho0 (below_size (by repeat (first | (with_reducible first | exact HB.out | apply below_alloc | apply pw_below_drewN | apply below_drew1 | refine below_set ?_ GE204.out) | exact HB.out)))); have n1_ := Aside0.mk (Kd.R_lower ho1 (below_size (by repeat (first | (with_reducible first | exact HB.out | apply below_alloc | apply pw_below_drewN | apply below_drew1 | refine below_set ?_ GE204.out) | exact HB.out)))); have n2_ := Aside0.mk (blk_below (g := gb204) (o := .cells #[.slice A0_0 l0_0.length c0_0, .slice A0_1 l0_1.length c0_1] 37 (0, 0)) (by (with_reducible repeat (first | refine blk_drewN ?_ _ | refine blk_drew ?_ | refine blk_alloc ?_ _)); exact BK204.out) hb); have n3_ := Aside0.mk (below_step (by repeat (first | (with_reducible first | exact HB.out | apply below_alloc | apply pw_below_drewN | apply below_drew1 | refine below_set ?_ GE204.out) | exact HB.out)) hb); clear BK204; clear HB; have HO208 := n0_; have HO211 := n1_; have BK204 := n2_; have HB := n3_; clear n0_ n1_ n2_ n3_; (try clear hb); (try clear hb2); (try clear hk); (try clear hi); (try clear ho0); (try clear ho1); obtain ⟨Ao17, co17, eo17⟩ := Kd.R_slice HO208.out; subst eo17; obtain ⟨Ao18, co18, eo18⟩ := Kd.R_slice HO211.out; subst eo18) | ((with_reducible refine gate_callee (f := 36) rfl ?_); refine goesL_ (some 22) rfl rfl Try.func36 (by kernel_rfl) rfl #[.agg #[.slice Ao17 t206.length co17, .slice Ao18 t209.length co18]] rfl (by (try simp only [List.map_toArray, List.map_cons, List.map_nil]); first | done | rfl | (simp only [List.length_drop, List.length_take]; rfl)) ?_; (with_reducible refine (spec_Iota.calls k _ _ t206 _ _ t209 t212 t215 t218 _ ?side1 ?side2 ?side3 ?side4 A8.out).mono ?_); (case side1 => repeat (first | exact (Kd.R_reads' HO208.out).2.2 | (with_reducible refine Kd.C_alloc ?_ _) | (with_reducible refine Kd.C_drewN ?_ _) | (with_reducible refine Kd.C_drew ?_))); (case side2 => exact (Kd.R_reads' HO208.out).2.1); (case side3 => repeat (first | exact (Kd.R_reads' HO211.out).2.2 | (with_reducible refine Kd.C_alloc ?_ _) | (with_reducible refine Kd.C_drewN ?_ _) | (with_reducible refine Kd.C_drew ?_))); (case side4 => exact (Kd.R_reads' HO211.out).2.1); rintro e w19 ⟨v213, v216, rfl, ho0, ho1, hb⟩; refine ⟨_, rfl, ?_⟩; have n0_ := Aside0.mk (Kd.R_mono (Kd.R_told (Kd.R_told (Kd.R_old (by (with_reducible repeat (first | apply Kd.R_alloc | apply Kd.R_drewN | apply Kd.R_drew)); exact HO208.out) hb) (Kd.R_base ho0)) (Kd.R_base ho1)) (fun _ h_ => h_.1)); have n1_ := Aside0.mk (Kd.R_mono (Kd.R_told (Kd.R_told (Kd.R_old (by (with_reducible repeat (first | apply Kd.R_alloc | apply Kd.R_drewN | apply Kd.R_drew)); exact HO211.out) hb) (Kd.R_base ho0)) (Kd.R_base ho1)) (fun _ h_ => h_.1)); have n2_ := Aside0.mk (Kd.R_lower (Kd.R_new' (Kd.R_new' ho0 (Kd.R_lt (by (with_reducible repeat (first | apply Kd.R_alloc | apply Kd.R_drewN | apply Kd.R_drew)); exact HO208.out))) (Kd.R_lt (by (with_reducible repeat (first | apply Kd.R_alloc | apply Kd.R_drewN | apply Kd.R_drew)); exact HO211.out))) (below_size (by repeat (first | (with_reducible first | exact HB.out | apply below_alloc | apply pw_below_drewN | apply below_drew1 | refine below_set ?_ GE204.out) | exact HB.out)))); have n3_ := Aside0.mk (Kd.R_lower (Kd.R_new' (Kd.R_new' ho1 (Kd.R_lt (by (with_reducible repeat (first | apply Kd.R_alloc | apply Kd.R_drewN | apply Kd.R_drew)); exact HO208.out))) (Kd.R_lt (by (with_reducible repeat (first | apply Kd.R_alloc | apply Kd.R_drewN | apply Kd.R_drew)); exact HO211.out))) (below_size (by repeat (first | (with_reducible first | exact HB.out | apply below_alloc | apply pw_below_drewN | apply below_drew1 | refine below_set ?_ GE204.out) | exact HB.out)))); have n4_ := Aside0.mk (blk_below (g := gb204) (o := .cells #[.slice A0_0 l0_0.length c0_0, .slice A0_1 l0_1.length c0_1] 37 (0, 0)) (by (with_reducible repeat (first | refine blk_drewN ?_ _ | refine blk_drew ?_ | refine blk_alloc ?_ _)); exact BK204.out) hb); have n5_ := Aside0.mk (below_step (by repeat (first | (with_reducible first | exact HB.out | apply below_alloc | apply pw_below_drewN | apply below_drew1 | refine below_set ?_ GE204.out) | exact HB.out)) hb); clear HO208; clear HO211; clear BK204; clear HB; have HO208 := n0_; have HO211 := n1_; have HO214 := n2_; have HO217 := n3_; have BK204 := n4_; have HB := n5_; clear n0_ n1_ n2_ n3_ n4_ n5_; (try clear hb); (try clear hb2); (try clear hk); (try clear hi); (try clear ho0); (try clear ho1)) | ((with_reducible refine gate_dst (N := 4) rfl ?_); refine box_event ?hg (N := 4) ?hd (cs := #[.slice none 0 0, .slice none 0 0]) (t := 26) ?hr ?_; (case hd => rfl); (case hg => rfl); (case hr => first | (go_simp; done) | (go_simp; rfl)); intro gb219 hg w20 hbox hb; have n0_ := Aside0.mk (Kd.R_below (by (with_reducible repeat (first | apply Kd.R_alloc | apply Kd.R_drewN | apply Kd.R_drew)); exact HO208.out) hb); have n1_ := Aside0.mk (Kd.R_below (by (with_reducible repeat (first | apply Kd.R_alloc | apply Kd.R_drewN | apply Kd.R_drew)); exact HO211.out) hb); have n2_ := Aside0.mk (Kd.R_below (by (with_reducible repeat (first | apply Kd.R_alloc | apply Kd.R_drewN | apply Kd.R_drew)); exact HO214.out) hb); have n3_ := Aside0.mk (Kd.R_below (by (with_reducible repeat (first | apply Kd.R_alloc | apply Kd.R_drewN | apply Kd.R_drew)); exact HO217.out) hb); have n4_ := Aside0.mk (blk_below (g := gb204) (o := .cells #[.slice A0_0 l0_0.length c0_0, .slice A0_1 l0_1.length c0_1] 37 (0, 0)) (by (with_reducible repeat (first | refine blk_drewN ?_ _ | refine blk_drew ?_ | refine blk_alloc ?_ _)); exact BK204.out) hb); have n5_ := Aside0.mk (below_step (by repeat (first | (with_reducible first | exact HB.out | apply below_alloc | apply pw_below_drewN | apply below_drew1 | refine below_set ?_ GE204.out) | exact HB.out)) hb); have n6_ := Aside0.mk (hbox); have n7_ := Aside0.mk ((by rw [hg]; exact (below_size (by repeat (first | (with_reducible first | exact HB.out | apply below_alloc | apply pw_below_drewN | apply below_drew1 | refine below_set ?_ GE204.out) | exact HB.out))) : w.heap.size ≤ gb219)); have n8_ := Aside0.mk ((by rw [hg]; exact (below_size (by repeat (first | (with_reducible first | exact HB.out | apply below_alloc | apply pw_below_drewN | apply below_drew1 | refine below_set ?_ GE204.out) | exact HB.out))) : w.heap.size ≤ gb219)); have n9_ := Aside0.mk ((by rw [hg]; exact Nat.ne_of_lt (blk_lt (g := gb204) (o := .cells #[.slice A0_0 l0_0.length c0_0, .slice A0_1 l0_1.length c0_1] 37 (0, 0)) (by (with_reducible repeat (first | refine blk_drewN ?_ _ | refine blk_drew ?_ | refine blk_alloc ?_ _)); exact BK204.out)) : gb204 ≠ gb219)); have n10_ := Aside0.mk ((by rw [hg]; exact Nat.ne_of_gt (blk_lt (g := gb204) (o := .cells #[.slice A0_0 l0_0.length c0_0, .slice A0_1 l0_1.length c0_1] 37 (0, 0)) (by (with_reducible repeat (first | refine blk_drewN ?_ _ | refine blk_drew ?_ | refine blk_alloc ?_ _)); exact BK204.out)) : gb219 ≠ gb204)); clear HO208; clear HO211; clear HO214; clear HO217; clear BK204; clear HB; have HO208 := n0_; have HO211 := n1_; have HO214 := n2_; have HO217 := n3_; have BK204 := n4_; have HB := n5_; have BK219 := n6_; have GW219 := n7_; have GE219 := n8_; have NB204_219 := n9_; have NB219_204 := n10_; clear n0_ n1_ n2_ n3_ n4_ n5_ n6_ n7_ n8_ n9_ n10_; clear hb hbox hg; obtain ⟨Ao21, co21, eo21⟩ := Kd.R_slice HO214.out; subst eo21; have hnb22 := NB219_204.out; have hnc22 := NB204_219.out; have hcz23_0 : w20.cell? ⟨gb219, 0, none⟩ = some (.slice none 0 0) := (blk_cell BK219.out 0).trans rfl; have hcz23_1 : w20.cell? ⟨gb219, 1, none⟩ = some (.slice none 0 0) := (blk_cell BK219.out 1).trans rfl; have hfz23_0 := blk_frozen BK219.out 0; have hfz23_1 := blk_frozen BK219.out 1; obtain ⟨Ao24, co24, eo24⟩ := Kd.R_slice HO217.out; subst eo24; have hcz25_0 : w20.cell? ⟨gb204, 0, none⟩ = some (.slice A0_0 l0_0.length c0_0) := (blk_cell BK204.out 0).trans rfl; have hcz25_1 : w20.cell? ⟨gb204, 1, none⟩ = some (.slice A0_1 l0_1.length c0_1) := (blk_cell BK204.out 1).trans rfl; have hfz25_0 := blk_frozen BK204.out 0; have hfz25_1 := blk_frozen BK204.out 1) | ((with_reducible refine gate_callee (f := 25) rfl ?_); refine goesL_ (some 26) rfl rfl Try.func25 (by kernel_rfl) rfl #[.agg #[.slice A0_0 l0_0.length c0_0, .slice A0_1 l0_1.length c0_1]] rfl (by (try simp only [List.map_toArray, List.map_cons, List.map_nil]); first | done | rfl | (simp only [List.length_drop, List.length_take]; rfl)) ?_; (with_reducible refine (laws_toArray.calls k _ _ l0_0 _ _ l0_1 t220 t223 _ ?side1 ?side2 ?side3 ?side4 A9.out).mono ?_); (case side1 => exact Kd.C_below HR0_0.out (by repeat (first | (with_reducible first | exact HB.out | apply below_alloc | apply pw_below_drewN | apply below_drew1 | refine below_set ?_ GE204.out | refine below_set ?_ GE219.out) | exact HB.out))); (case side2 => exact HC0_0.out); (case side3 => exact Kd.C_below HR0_1.out (by repeat (first | (with_reducible first | exact HB.out | apply below_alloc | apply pw_below_drewN | apply below_drew1 | refine below_set ?_ GE204.out | refine below_set ?_ GE219.out) | exact HB.out))); (case side4 => exact HC0_1.out); rintro e w26 ⟨v221, v224, rfl, ho0, ho1, hb⟩; refine ⟨_, rfl, ?_⟩; have n0_ := Aside0.mk (Kd.R_mono (Kd.R_told (Kd.R_told (Kd.R_old (by (with_reducible repeat (first | apply Kd.R_alloc | apply Kd.R_drewN | apply Kd.R_drew)); exact (Kd.R_mono (Kd.R_far (p := ⟨gb219, 1, none⟩) (Kd.R_far (p := ⟨gb219, 0, none⟩) (Kd.R_types HO208.out BK219.out (by decide)) (fun _ hk => hk.2) (.slice Ao21 t212.length co21)) (fun _ hk => hk.2) (.slice Ao24 t215.length co24)) (fun _ h_ => h_.1))) hb) (Kd.R_base ho0)) (Kd.R_base ho1)) (fun _ h_ => h_.1)); have n1_ := Aside0.mk (Kd.R_mono (Kd.R_told (Kd.R_told (Kd.R_old (by (with_reducible repeat (first | apply Kd.R_alloc | apply Kd.R_drewN | apply Kd.R_drew)); exact (Kd.R_mono (Kd.R_far (p := ⟨gb219, 1, none⟩) (Kd.R_far (p := ⟨gb219, 0, none⟩) (Kd.R_types HO211.out BK219.out (by decide)) (fun _ hk => hk.2) (.slice Ao21 t212.length co21)) (fun _ hk => hk.2) (.slice Ao24 t215.length co24)) (fun _ h_ => h_.1))) hb) (Kd.R_base ho0)) (Kd.R_base ho1)) (fun _ h_ => h_.1)); have n2_ := Aside0.mk (Kd.R_mono (Kd.R_told (Kd.R_told (Kd.R_old (by (with_reducible repeat (first | apply Kd.R_alloc | apply Kd.R_drewN | apply Kd.R_drew)); exact (Kd.R_mono (Kd.R_far (p := ⟨gb219, 1, none⟩) (Kd.R_far (p := ⟨gb219, 0, none⟩) (Kd.R_types HO214.out BK219.out (by decide)) (fun _ hk => hk.2) (.slice Ao21 t212.length co21)) (fun _ hk => hk.2) (.slice Ao24 t215.length co24)) (fun _ h_ => h_.1))) hb) (Kd.R_base ho0)) (Kd.R_base ho1)) (fun _ h_ => h_.1)); have n3_ := Aside0.mk (Kd.R_mono (Kd.R_told (Kd.R_told (Kd.R_old (by (with_reducible repeat (first | apply Kd.R_alloc | apply Kd.R_drewN | apply Kd.R_drew)); exact (Kd.R_mono (Kd.R_far (p := ⟨gb219, 1, none⟩) (Kd.R_far (p := ⟨gb219, 0, none⟩) (Kd.R_types HO217.out BK219.out (by decide)) (fun _ hk => hk.2) (.slice Ao21 t212.length co21)) (fun _ hk => hk.2) (.slice Ao24 t215.length co24)) (fun _ h_ => h_.1))) hb) (Kd.R_base ho0)) (Kd.R_base ho1)) (fun _ h_ => h_.1)); have n4_ := Aside0.mk (Kd.R_lower (Kd.R_new' (Kd.R_new' (Kd.R_new' (Kd.R_new' ho0 (Kd.R_lt (by (with_reducible repeat (first | apply Kd.R_alloc | apply Kd.R_drewN | apply Kd.R_drew)); exact (Kd.R_mono (Kd.R_far (p := ⟨gb219, 1, none⟩) (Kd.R_far (p := ⟨gb219, 0, none⟩) (Kd.R_types HO208.out BK219.out (by decide)) (fun _ hk => hk.2) (.slice Ao21 t212.length co21)) (fun _ hk => hk.2) (.slice Ao24 t215.length co24)) (fun _ h_ => h_.1))))) (Kd.R_lt (by (with_reducible repeat (first | apply Kd.R_alloc | apply Kd.R_drewN | apply Kd.R_drew)); exact (Kd.R_mono (Kd.R_far (p := ⟨gb219, 1, none⟩) (Kd.R_far (p := ⟨gb219, 0, none⟩) (Kd.R_types HO211.out BK219.out (by decide)) (fun _ hk => hk.2) (.slice Ao21 t212.length co21)) (fun _ hk => hk.2) (.slice Ao24 t215.length co24)) (fun _ h_ => h_.1))))) (Kd.R_lt (by (with_reducible repeat (first | apply Kd.R_alloc | apply Kd.R_drewN | apply Kd.R_drew)); exact (Kd.R_mono (Kd.R_far (p := ⟨gb219, 1, none⟩) (Kd.R_far (p := ⟨gb219, 0, none⟩) (Kd.R_types HO214.out BK219.out (by decide)) (fun _ hk => hk.2) (.slice Ao21 t212.length co21)) (fun _ hk => hk.2) (.slice Ao24 t215.length co24)) (fun _ h_ => h_.1))))) (Kd.R_lt (by (with_reducible repeat (first | apply Kd.R_alloc | apply Kd.R_drewN | apply Kd.R_drew)); exact (Kd.R_mono (Kd.R_far (p := ⟨gb219, 1, none⟩) (Kd.R_far (p := ⟨gb219, 0, none⟩) (Kd.R_types HO217.out BK219.out (by decide)) (fun _ hk => hk.2) (.slice Ao21 t212.length co21)) (fun _ hk => hk.2) (.slice Ao24 t215.length co24)) (fun _ h_ => h_.1))))) (below_size (by repeat (first | (with_reducible first | exact HB.out | apply below_alloc | apply pw_below_drewN | apply below_drew1 | refine below_set ?_ GE204.out | refine below_set ?_ GE219.out) | exact HB.out)))); have n5_ := Aside0.mk (Kd.R_lower (Kd.R_new' (Kd.R_new' (Kd.R_new' (Kd.R_new' ho1 (Kd.R_lt (by (with_reducible repeat (first | apply Kd.R_alloc | apply Kd.R_drewN | apply Kd.R_drew)); exact (Kd.R_mono (Kd.R_far (p := ⟨gb219, 1, none⟩) (Kd.R_far (p := ⟨gb219, 0, none⟩) (Kd.R_types HO208.out BK219.out (by decide)) (fun _ hk => hk.2) (.slice Ao21 t212.length co21)) (fun _ hk => hk.2) (.slice Ao24 t215.length co24)) (fun _ h_ => h_.1))))) (Kd.R_lt (by (with_reducible repeat (first | apply Kd.R_alloc | apply Kd.R_drewN | apply Kd.R_drew)); exact (Kd.R_mono (Kd.R_far (p := ⟨gb219, 1, none⟩) (Kd.R_far (p := ⟨gb219, 0, none⟩) (Kd.R_types HO211.out BK219.out (by decide)) (fun _ hk => hk.2) (.slice Ao21 t212.length co21)) (fun _ hk => hk.2) (.slice Ao24 t215.length co24)) (fun _ h_ => h_.1))))) (Kd.R_lt (by (with_reducible repeat (first | apply Kd.R_alloc | apply Kd.R_drewN | apply Kd.R_drew)); exact (Kd.R_mono (Kd.R_far (p := ⟨gb219, 1, none⟩) (Kd.R_far (p := ⟨gb219, 0, none⟩) (Kd.R_types HO214.out BK219.out (by decide)) (fun _ hk => hk.2) (.slice Ao21 t212.length co21)) (fun _ hk => hk.2) (.slice Ao24 t215.length co24)) (fun _ h_ => h_.1))))) (Kd.R_lt (by (with_reducible repeat (first | apply Kd.R_alloc | apply Kd.R_drewN | apply Kd.R_drew)); exact (Kd.R_mono (Kd.R_far (p := ⟨gb219, 1, none⟩) (Kd.R_far (p := ⟨gb219, 0, none⟩) (Kd.R_types HO217.out BK219.out (by decide)) (fun _ hk => hk.2) (.slice Ao21 t212.length co21)) (fun _ hk => hk.2) (.slice Ao24 t215.length co24)) (fun _ h_ => h_.1))))) (below_size (by repeat (first | (with_reducible first | exact HB.out | apply below_alloc | apply pw_below_drewN | apply below_drew1 | refine below_set ?_ GE204.out | refine below_set ?_ GE219.out) | exact HB.out)))); have n6_ := Aside0.mk (blk_below (g := gb204) (o := .cells #[.slice A0_0 l0_0.length c0_0, .slice A0_1 l0_1.length c0_1] 37 (0, 0)) (by (with_reducible repeat (first | refine blk_drewN ?_ _ | refine blk_drew ?_ | refine blk_alloc ?_ _)); refine blk_far ?_ NB204_219.out _; (with_reducible repeat (first | refine blk_drewN ?_ _ | refine blk_drew ?_ | refine blk_alloc ?_ _)); refine blk_far ?_ NB204_219.out _; (with_reducible repeat (first | refine blk_drewN ?_ _ | refine blk_drew ?_ | refine blk_alloc ?_ _)); exact BK204.out) hb); have n7_ := Aside0.mk (blk_below (g := gb219) (o := .cells #[.slice Ao21 t212.length co21, .slice Ao24 t215.length co24] 26 (0, 0)) (by (with_reducible repeat (first | refine blk_drewN ?_ _ | refine blk_drew ?_ | refine blk_alloc ?_ _)); refine blk_put (cs := #[.slice Ao21 t212.length co21, .slice none 0 0]) ?_ 1 _ rfl; (with_reducible repeat (first | refine blk_drewN ?_ _ | refine blk_drew ?_ | refine blk_alloc ?_ _)); refine blk_put (cs := #[.slice none 0 0, .slice none 0 0]) ?_ 0 _ rfl; (with_reducible repeat (first | refine blk_drewN ?_ _ | refine blk_drew ?_ | refine blk_alloc ?_ _)); exact BK219.out) hb); have n8_ := Aside0.mk (below_step (by repeat (first | (with_reducible first | exact HB.out | apply below_alloc | apply pw_below_drewN | apply below_drew1 | refine below_set ?_ GE204.out | refine below_set ?_ GE219.out) | exact HB.out)) hb); clear HO208; clear HO211; clear HO214; clear HO217; clear BK204; clear BK219; clear HB; have HO208 := n0_; have HO211 := n1_; have HO214 := n2_; have HO217 := n3_; have HO222 := n4_; have HO225 := n5_; have BK204 := n6_; have BK219 := n7_; have HB := n8_; clear n0_ n1_ n2_ n3_ n4_ n5_ n6_ n7_ n8_; (try clear hb); (try clear hb2); (try clear hk); (try clear hi); (try clear ho0); (try clear ho1)) | ((with_reducible refine gate_dst (N := 6) rfl ?_); refine box_event ?hg (N := 6) ?hd (cs := #[.slice none 0 0, .slice none 0 0]) (t := 26) ?hr ?_; (case hd => rfl); (case hg => rfl); (case hr => first | (go_simp; done) | (go_simp; rfl)); intro gb226 hg w27 hbox hb; have n0_ := Aside0.mk (Kd.R_below (by (with_reducible repeat (first | apply Kd.R_alloc | apply Kd.R_drewN | apply Kd.R_drew)); exact HO208.out) hb); have n1_ := Aside0.mk (Kd.R_below (by (with_reducible repeat (first | apply Kd.R_alloc | apply Kd.R_drewN | apply Kd.R_drew)); exact HO211.out) hb); have n2_ := Aside0.mk (Kd.R_below (by (with_reducible repeat (first | apply Kd.R_alloc | apply Kd.R_drewN | apply Kd.R_drew)); exact HO214.out) hb); have n3_ := Aside0.mk (Kd.R_below (by (with_reducible repeat (first | apply Kd.R_alloc | apply Kd.R_drewN | apply Kd.R_drew)); exact HO217.out) hb); have n4_ := Aside0.mk (Kd.R_below (by (with_reducible repeat (first | apply Kd.R_alloc | apply Kd.R_drewN | apply Kd.R_drew)); exact HO222.out) hb); have n5_ := Aside0.mk (Kd.R_below (by (with_reducible repeat (first | apply Kd.R_alloc | apply Kd.R_drewN | apply Kd.R_drew)); exact HO225.out) hb); have n6_ := Aside0.mk (blk_below (g := gb204) (o := .cells #[.slice A0_0 l0_0.length c0_0, .slice A0_1 l0_1.length c0_1] 37 (0, 0)) (by (with_reducible repeat (first | refine blk_drewN ?_ _ | refine blk_drew ?_ | refine blk_alloc ?_ _)); exact BK204.out) hb); have n7_ := Aside0.mk (blk_below (g := gb219) (o := .cells #[.slice Ao21 t212.length co21, .slice Ao24 t215.length co24] 26 (0, 0)) (by (with_reducible repeat (first | refine blk_drewN ?_ _ | refine blk_drew ?_ | refine blk_alloc ?_ _)); exact BK219.out) hb); have n8_ := Aside0.mk (below_step (by repeat (first | (with_reducible first | exact HB.out | apply below_alloc | apply pw_below_drewN | apply below_drew1 | refine below_set ?_ GE204.out | refine below_set ?_ GE219.out) | exact HB.out)) hb); have n9_ := Aside0.mk (hbox); have n10_ := Aside0.mk ((by rw [hg]; exact (below_size (by repeat (first | (with_reducible first | exact HB.out | apply below_alloc | apply pw_below_drewN | apply below_drew1 | refine below_set ?_ GE204.out | refine below_set ?_ GE219.out) | exact HB.out))) : w.heap.size ≤ gb226)); have n11_ := Aside0.mk ((by rw [hg]; exact (below_size (by repeat (first | (with_reducible first | exact HB.out | apply below_alloc | apply pw_below_drewN | apply below_drew1 | refine below_set ?_ GE204.out | refine below_set ?_ GE219.out) | exact HB.out))) : w.heap.size ≤ gb226)); have n12_ := Aside0.mk ((by rw [hg]; exact Nat.ne_of_lt (blk_lt (g := gb204) (o := .cells #[.slice A0_0 l0_0.length c0_0, .slice A0_1 l0_1.length c0_1] 37 (0, 0)) (by (with_reducible repeat (first | refine blk_drewN ?_ _ | refine blk_drew ?_ | refine blk_alloc ?_ _)); exact BK204.out)) : gb204 ≠ gb226)); have n13_ := Aside0.mk ((by rw [hg]; exact Nat.ne_of_gt (blk_lt (g := gb204) (o := .cells #[.slice A0_0 l0_0.length c0_0, .slice A0_1 l0_1.length c0_1] 37 (0, 0)) (by (with_reducible repeat (first | refine blk_drewN ?_ _ | refine blk_drew ?_ | refine blk_alloc ?_ _)); exact BK204.out)) : gb226 ≠ gb204)); have n14_ := Aside0.mk ((by rw [hg]; exact Nat.ne_of_lt (blk_lt (g := gb219) (o := .cells #[.slice Ao21 t212.length co21, .slice Ao24 t215.length co24] 26 (0, 0)) (by (with_reducible repeat (first | refine blk_drewN ?_ _ | refine blk_drew ?_ | refine blk_alloc ?_ _)); exact BK219.out)) : gb219 ≠ gb226)); have n15_ := Aside0.mk ((by rw [hg]; exact Nat.ne_of_gt (blk_lt (g := gb219) (o := .cells #[.slice Ao21 t212.length co21, .slice Ao24 t215.length co24] 26 (0, 0)) (by (with_reducible repeat (first | refine blk_drewN ?_ _ | refine blk_drew ?_ | refine blk_alloc ?_ _)); exact BK219.out)) : gb226 ≠ gb219)); clear HO208; clear HO211; clear HO214; clear HO217; clear HO222; clear HO225; clear BK204; clear BK219; clear HB; have HO208 := n0_; have HO211 := n1_; have HO214 := n2_; have HO217 := n3_; have HO222 := n4_; have HO225 := n5_; have BK204 := n6_; have BK219 := n7_; have HB := n8_; have BK226 := n9_; have GW226 := n10_; have GE226 := n11_; have NB204_226 := n12_; have NB226_204 := n13_; have NB219_226 := n14_; have NB226_219 := n15_; clear n0_ n1_ n2_ n3_ n4_ n5_ n6_ n7_ n8_ n9_ n10_ n11_ n12_ n13_ n14_ n15_; clear hb hbox hg; obtain ⟨Ao28, co28, eo28⟩ := Kd.R_slice HO222.out; subst eo28; have hnb29 := NB226_204.out; have hnc29 := NB204_226.out; have hnb30 := NB226_219.out; have hnc30 := NB219_226.out; have hcz31_0 : w27.cell? ⟨gb226, 0, none⟩ = some (.slice none 0 0) := (blk_cell BK226.out 0).trans rfl; have hcz31_1 : w27.cell? ⟨gb226, 1, none⟩ = some (.slice none 0 0) := (blk_cell BK226.out 1).trans rfl; have hfz31_0 := blk_frozen BK226.out 0; have hfz31_1 := blk_frozen BK226.out 1; obtain ⟨Ao32, co32, eo32⟩ := Kd.R_slice HO225.out; subst eo32) | ((with_reducible refine gate_callee (f := 37) rfl ?_); refine goesL_ (some 29) rfl rfl Try.func37 (by kernel_rfl) rfl #[.agg #[.slice Ao28 t220.length co28, .slice Ao32 t223.length co32]] rfl (by (try simp only [List.map_toArray, List.map_cons, List.map_nil]); first | done | rfl | (simp only [List.length_drop, List.length_take]; rfl)) ?_; (with_reducible refine (impl_Iota.calls k _ _ t220 _ _ t223 t227 t230 t233 _ ?side1 ?side2 ?side3 ?side4 A10.out).mono ?_); (case side1 => refine (Kd.R_reads' (e := 3) (base := w.heap.size) (ok := fun k_ => ((((some k_ ≠ (.slice Ao32 t223.length co32 : Value).ownBlock ∧ some k_ ≠ (.slice Ao17 t206.length co17 : Value).ownBlock) ∧ some k_ ≠ (.slice Ao18 t209.length co18 : Value).ownBlock) ∧ some k_ ≠ (.slice Ao21 t212.length co21 : Value).ownBlock) ∧ some k_ ≠ (.slice Ao24 t215.length co24 : Value).ownBlock)) (n := t220.length) (c := co28) ?_).2.2; exact (by (with_reducible repeat (first | apply Kd.R_alloc | apply Kd.R_drewN | apply Kd.R_drew)); exact (Kd.R_mono (Kd.R_far (p := ⟨gb226, 1, none⟩) (Kd.R_far (p := ⟨gb226, 0, none⟩) (Kd.R_types HO222.out BK226.out (by decide)) (fun _ hk => hk.2) (.slice Ao28 t220.length co28)) (fun _ hk => hk.2) (.slice Ao32 t223.length co32)) (fun _ h_ => h_.1)))); (case side2 => exact (Kd.R_reads' HO222.out).2.1); (case side3 => refine (Kd.R_reads' (e := 3) (base := w.heap.size) (ok := fun k_ => ((((some k_ ≠ (.slice Ao28 t220.length co28 : Value).ownBlock ∧ some k_ ≠ (.slice Ao17 t206.length co17 : Value).ownBlock) ∧ some k_ ≠ (.slice Ao18 t209.length co18 : Value).ownBlock) ∧ some k_ ≠ (.slice Ao21 t212.length co21 : Value).ownBlock) ∧ some k_ ≠ (.slice Ao24 t215.length co24 : Value).ownBlock)) (n := t223.length) (c := co32) ?_).2.2; exact (by (with_reducible repeat (first | apply Kd.R_alloc | apply Kd.R_drewN | apply Kd.R_drew)); exact (Kd.R_mono (Kd.R_far (p := ⟨gb226, 1, none⟩) (Kd.R_far (p := ⟨gb226, 0, none⟩) (Kd.R_types HO225.out BK226.out (by decide)) (fun _ hk => hk.2) (.slice Ao28 t220.length co28)) (fun _ hk => hk.2) (.slice Ao32 t223.length co32)) (fun _ h_ => h_.1)))); (case side4 => exact (Kd.R_reads' HO225.out).2.1); rintro e w33 ⟨v228, v231, rfl, ho0, ho1, hb⟩; refine ⟨_, rfl, ?_⟩; have n0_ := Aside0.mk (Kd.R_mono (Kd.R_told (Kd.R_told (Kd.R_old (by (with_reducible repeat (first | apply Kd.R_alloc | apply Kd.R_drewN | apply Kd.R_drew)); exact (Kd.R_mono (Kd.R_far (p := ⟨gb226, 1, none⟩) (Kd.R_far (p := ⟨gb226, 0, none⟩) (Kd.R_types HO208.out BK226.out (by decide)) (fun _ hk => hk.2) (.slice Ao28 t220.length co28)) (fun _ hk => hk.2) (.slice Ao32 t223.length co32)) (fun _ h_ => h_.1))) hb) (Kd.R_base ho0)) (Kd.R_base ho1)) (fun _ h_ => h_.1)); have n1_ := Aside0.mk (Kd.R_mono (Kd.R_told (Kd.R_told (Kd.R_old (by (with_reducible repeat (first | apply Kd.R_alloc | apply Kd.R_drewN | apply Kd.R_drew)); exact (Kd.R_mono (Kd.R_far (p := ⟨gb226, 1, none⟩) (Kd.R_far (p := ⟨gb226, 0, none⟩) (Kd.R_types HO211.out BK226.out (by decide)) (fun _ hk => hk.2) (.slice Ao28 t220.length co28)) (fun _ hk => hk.2) (.slice Ao32 t223.length co32)) (fun _ h_ => h_.1))) hb) (Kd.R_base ho0)) (Kd.R_base ho1)) (fun _ h_ => h_.1)); have n2_ := Aside0.mk (Kd.R_mono (Kd.R_told (Kd.R_told (Kd.R_old (by (with_reducible repeat (first | apply Kd.R_alloc | apply Kd.R_drewN | apply Kd.R_drew)); exact (Kd.R_mono (Kd.R_far (p := ⟨gb226, 1, none⟩) (Kd.R_far (p := ⟨gb226, 0, none⟩) (Kd.R_types HO214.out BK226.out (by decide)) (fun _ hk => hk.2) (.slice Ao28 t220.length co28)) (fun _ hk => hk.2) (.slice Ao32 t223.length co32)) (fun _ h_ => h_.1))) hb) (Kd.R_base ho0)) (Kd.R_base ho1)) (fun _ h_ => h_.1)); have n3_ := Aside0.mk (Kd.R_mono (Kd.R_told (Kd.R_told (Kd.R_old (by (with_reducible repeat (first | apply Kd.R_alloc | apply Kd.R_drewN | apply Kd.R_drew)); exact (Kd.R_mono (Kd.R_far (p := ⟨gb226, 1, none⟩) (Kd.R_far (p := ⟨gb226, 0, none⟩) (Kd.R_types HO217.out BK226.out (by decide)) (fun _ hk => hk.2) (.slice Ao28 t220.length co28)) (fun _ hk => hk.2) (.slice Ao32 t223.length co32)) (fun _ h_ => h_.1))) hb) (Kd.R_base ho0)) (Kd.R_base ho1)) (fun _ h_ => h_.1)); have n4_ := Aside0.mk (Kd.R_mono (Kd.R_told (Kd.R_told (Kd.R_old (by (with_reducible repeat (first | apply Kd.R_alloc | apply Kd.R_drewN | apply Kd.R_drew)); exact (Kd.R_mono (Kd.R_far (p := ⟨gb226, 1, none⟩) (Kd.R_far (p := ⟨gb226, 0, none⟩) (Kd.R_types HO222.out BK226.out (by decide)) (fun _ hk => hk.2) (.slice Ao28 t220.length co28)) (fun _ hk => hk.2) (.slice Ao32 t223.length co32)) (fun _ h_ => h_.1))) hb) (Kd.R_base ho0)) (Kd.R_base ho1)) (fun _ h_ => h_.1)); have n5_ := Aside0.mk (Kd.R_mono (Kd.R_told (Kd.R_told (Kd.R_old (by (with_reducible repeat (first | apply Kd.R_alloc | apply Kd.R_drewN | apply Kd.R_drew)); exact (Kd.R_mono (Kd.R_far (p := ⟨gb226, 1, none⟩) (Kd.R_far (p := ⟨gb226, 0, none⟩) (Kd.R_types HO225.out BK226.out (by decide)) (fun _ hk => hk.2) (.slice Ao28 t220.length co28)) (fun _ hk => hk.2) (.slice Ao32 t223.length co32)) (fun _ h_ => h_.1))) hb) (Kd.R_base ho0)) (Kd.R_base ho1)) (fun _ h_ => h_.1)); have n6_ := Aside0.mk (Kd.R_lower (Kd.R_new' (Kd.R_new' (Kd.R_new' (Kd.R_new' (Kd.R_new' (Kd.R_new' ho0 (Kd.R_lt (by (with_reducible repeat (first | apply Kd.R_alloc | apply Kd.R_drewN | apply Kd.R_drew)); exact (Kd.R_mono (Kd.R_far (p := ⟨gb226, 1, none⟩) (Kd.R_far (p := ⟨gb226, 0, none⟩) (Kd.R_types HO208.out BK226.out (by decide)) (fun _ hk => hk.2) (.slice Ao28 t220.length co28)) (fun _ hk => hk.2) (.slice Ao32 t223.length co32)) (fun _ h_ => h_.1))))) (Kd.R_lt (by (with_reducible repeat (first | apply Kd.R_alloc | apply Kd.R_drewN | apply Kd.R_drew)); exact (Kd.R_mono (Kd.R_far (p := ⟨gb226, 1, none⟩) (Kd.R_far (p := ⟨gb226, 0, none⟩) (Kd.R_types HO211.out BK226.out (by decide)) (fun _ hk => hk.2) (.slice Ao28 t220.length co28)) (fun _ hk => hk.2) (.slice Ao32 t223.length co32)) (fun _ h_ => h_.1))))) (Kd.R_lt (by (with_reducible repeat (first | apply Kd.R_alloc | apply Kd.R_drewN | apply Kd.R_drew)); exact (Kd.R_mono (Kd.R_far (p := ⟨gb226, 1, none⟩) (Kd.R_far (p := ⟨gb226, 0, none⟩) (Kd.R_types HO214.out BK226.out (by decide)) (fun _ hk => hk.2) (.slice Ao28 t220.length co28)) (fun _ hk => hk.2) (.slice Ao32 t223.length co32)) (fun _ h_ => h_.1))))) (Kd.R_lt (by (with_reducible repeat (first | apply Kd.R_alloc | apply Kd.R_drewN | apply Kd.R_drew)); exact (Kd.R_mono (Kd.R_far (p := ⟨gb226, 1, none⟩) (Kd.R_far (p := ⟨gb226, 0, none⟩) (Kd.R_types HO217.out BK226.out (by decide)) (fun _ hk => hk.2) (.slice Ao28 t220.length co28)) (fun _ hk => hk.2) (.slice Ao32 t223.length co32)) (fun _ h_ => h_.1))))) (Kd.R_lt (by (with_reducible repeat (first | apply Kd.R_alloc | apply Kd.R_drewN | apply Kd.R_drew)); exact (Kd.R_mono (Kd.R_far (p := ⟨gb226, 1, none⟩) (Kd.R_far (p := ⟨gb226, 0, none⟩) (Kd.R_types HO222.out BK226.out (by decide)) (fun _ hk => hk.2) (.slice Ao28 t220.length co28)) (fun _ hk => hk.2) (.slice Ao32 t223.length co32)) (fun _ h_ => h_.1))))) (Kd.R_lt (by (with_reducible repeat (first | apply Kd.R_alloc | apply Kd.R_drewN | apply Kd.R_drew)); exact (Kd.R_mono (Kd.R_far (p := ⟨gb226, 1, none⟩) (Kd.R_far (p := ⟨gb226, 0, none⟩) (Kd.R_types HO225.out BK226.out (by decide)) (fun _ hk => hk.2) (.slice Ao28 t220.length co28)) (fun _ hk => hk.2) (.slice Ao32 t223.length co32)) (fun _ h_ => h_.1))))) (below_size (by repeat (first | (with_reducible first | exact HB.out | apply below_alloc | apply pw_below_drewN | apply below_drew1 | refine below_set ?_ GE204.out | refine below_set ?_ GE219.out | refine below_set ?_ GE226.out) | exact HB.out)))); have n7_ := Aside0.mk (Kd.R_lower (Kd.R_new' (Kd.R_new' (Kd.R_new' (Kd.R_new' (Kd.R_new' (Kd.R_new' ho1 (Kd.R_lt (by (with_reducible repeat (first | apply Kd.R_alloc | apply Kd.R_drewN | apply Kd.R_drew)); exact (Kd.R_mono (Kd.R_far (p := ⟨gb226, 1, none⟩) (Kd.R_far (p := ⟨gb226, 0, none⟩) (Kd.R_types HO208.out BK226.out (by decide)) (fun _ hk => hk.2) (.slice Ao28 t220.length co28)) (fun _ hk => hk.2) (.slice Ao32 t223.length co32)) (fun _ h_ => h_.1))))) (Kd.R_lt (by (with_reducible repeat (first | apply Kd.R_alloc | apply Kd.R_drewN | apply Kd.R_drew)); exact (Kd.R_mono (Kd.R_far (p := ⟨gb226, 1, none⟩) (Kd.R_far (p := ⟨gb226, 0, none⟩) (Kd.R_types HO211.out BK226.out (by decide)) (fun _ hk => hk.2) (.slice Ao28 t220.length co28)) (fun _ hk => hk.2) (.slice Ao32 t223.length co32)) (fun _ h_ => h_.1))))) (Kd.R_lt (by (with_reducible repeat (first | apply Kd.R_alloc | apply Kd.R_drewN | apply Kd.R_drew)); exact (Kd.R_mono (Kd.R_far (p := ⟨gb226, 1, none⟩) (Kd.R_far (p := ⟨gb226, 0, none⟩) (Kd.R_types HO214.out BK226.out (by decide)) (fun _ hk => hk.2) (.slice Ao28 t220.length co28)) (fun _ hk => hk.2) (.slice Ao32 t223.length co32)) (fun _ h_ => h_.1))))) (Kd.R_lt (by (with_reducible repeat (first | apply Kd.R_alloc | apply Kd.R_drewN | apply Kd.R_drew)); exact (Kd.R_mono (Kd.R_far (p := ⟨gb226, 1, none⟩) (Kd.R_far (p := ⟨gb226, 0, none⟩) (Kd.R_types HO217.out BK226.out (by decide)) (fun _ hk => hk.2) (.slice Ao28 t220.length co28)) (fun _ hk => hk.2) (.slice Ao32 t223.length co32)) (fun _ h_ => h_.1))))) (Kd.R_lt (by (with_reducible repeat (first | apply Kd.R_alloc | apply Kd.R_drewN | apply Kd.R_drew)); exact (Kd.R_mono (Kd.R_far (p := ⟨gb226, 1, none⟩) (Kd.R_far (p := ⟨gb226, 0, none⟩) (Kd.R_types HO222.out BK226.out (by decide)) (fun _ hk => hk.2) (.slice Ao28 t220.length co28)) (fun _ hk => hk.2) (.slice Ao32 t223.length co32)) (fun _ h_ => h_.1))))) (Kd.R_lt (by (with_reducible repeat (first | apply Kd.R_alloc | apply Kd.R_drewN | apply Kd.R_drew)); exact (Kd.R_mono (Kd.R_far (p := ⟨gb226, 1, none⟩) (Kd.R_far (p := ⟨gb226, 0, none⟩) (Kd.R_types HO225.out BK226.out (by decide)) (fun _ hk => hk.2) (.slice Ao28 t220.length co28)) (fun _ hk => hk.2) (.slice Ao32 t223.length co32)) (fun _ h_ => h_.1))))) (below_size (by repeat (first | (with_reducible first | exact HB.out | apply below_alloc | apply pw_below_drewN | apply below_drew1 | refine below_set ?_ GE204.out | refine below_set ?_ GE219.out | refine below_set ?_ GE226.out) | exact HB.out)))); have n8_ := Aside0.mk (blk_below (g := gb204) (o := .cells #[.slice A0_0 l0_0.length c0_0, .slice A0_1 l0_1.length c0_1] 37 (0, 0)) (by (with_reducible repeat (first | refine blk_drewN ?_ _ | refine blk_drew ?_ | refine blk_alloc ?_ _)); refine blk_far ?_ NB204_226.out _; (with_reducible repeat (first | refine blk_drewN ?_ _ | refine blk_drew ?_ | refine blk_alloc ?_ _)); refine blk_far ?_ NB204_226.out _; (with_reducible repeat (first | refine blk_drewN ?_ _ | refine blk_drew ?_ | refine blk_alloc ?_ _)); exact BK204.out) hb); have n9_ := Aside0.mk (blk_below (g := gb219) (o := .cells #[.slice Ao21 t212.length co21, .slice Ao24 t215.length co24] 26 (0, 0)) (by (with_reducible repeat (first | refine blk_drewN ?_ _ | refine blk_drew ?_ | refine blk_alloc ?_ _)); refine blk_far ?_ NB219_226.out _; (with_reducible repeat (first | refine blk_drewN ?_ _ | refine blk_drew ?_ | refine blk_alloc ?_ _)); refine blk_far ?_ NB219_226.out _; (with_reducible repeat (first | refine blk_drewN ?_ _ | refine blk_drew ?_ | refine blk_alloc ?_ _)); exact BK219.out) hb); have n10_ := Aside0.mk (blk_below (g := gb226) (o := .cells #[.slice Ao28 t220.length co28, .slice Ao32 t223.length co32] 26 (0, 0)) (by (with_reducible repeat (first | refine blk_drewN ?_ _ | refine blk_drew ?_ | refine blk_alloc ?_ _)); refine blk_put (cs := #[.slice Ao28 t220.length co28, .slice none 0 0]) ?_ 1 _ rfl; (with_reducible repeat (first | refine blk_drewN ?_ _ | refine blk_drew ?_ | refine blk_alloc ?_ _)); refine blk_put (cs := #[.slice none 0 0, .slice none 0 0]) ?_ 0 _ rfl; (with_reducible repeat (first | refine blk_drewN ?_ _ | refine blk_drew ?_ | refine blk_alloc ?_ _)); exact BK226.out) hb); have n11_ := Aside0.mk (below_step (by repeat (first | (with_reducible first | exact HB.out | apply below_alloc | apply pw_below_drewN | apply below_drew1 | refine below_set ?_ GE204.out | refine below_set ?_ GE219.out | refine below_set ?_ GE226.out) | exact HB.out)) hb); clear HO208; clear HO211; clear HO214; clear HO217; clear HO222; clear HO225; clear BK204; clear BK219; clear BK226; clear HB; have HO208 := n0_; have HO211 := n1_; have HO214 := n2_; have HO217 := n3_; have HO222 := n4_; have HO225 := n5_; have HO229 := n6_; have HO232 := n7_; have BK204 := n8_; have BK219 := n9_; have BK226 := n10_; have HB := n11_; clear n0_ n1_ n2_ n3_ n4_ n5_ n6_ n7_ n8_ n9_ n10_ n11_; (try clear hb); (try clear hb2); (try clear hk); (try clear hi); (try clear ho0); (try clear ho1)) | ((with_reducible refine gate_dst (N := 7) rfl ?_); refine box_event ?hg (N := 7) ?hd (cs := #[.slice none 0 0, .slice none 0 0]) (t := 26) ?hr ?_; (case hd => rfl); (case hg => rfl); (case hr => first | (go_simp; done) | (go_simp; rfl)); intro gb234 hg w34 hbox hb; have n0_ := Aside0.mk (Kd.R_below (by (with_reducible repeat (first | apply Kd.R_alloc | apply Kd.R_drewN | apply Kd.R_drew)); exact HO208.out) hb); have n1_ := Aside0.mk (Kd.R_below (by (with_reducible repeat (first | apply Kd.R_alloc | apply Kd.R_drewN | apply Kd.R_drew)); exact HO211.out) hb); have n2_ := Aside0.mk (Kd.R_below (by (with_reducible repeat (first | apply Kd.R_alloc | apply Kd.R_drewN | apply Kd.R_drew)); exact HO214.out) hb); have n3_ := Aside0.mk (Kd.R_below (by (with_reducible repeat (first | apply Kd.R_alloc | apply Kd.R_drewN | apply Kd.R_drew)); exact HO217.out) hb); have n4_ := Aside0.mk (Kd.R_below (by (with_reducible repeat (first | apply Kd.R_alloc | apply Kd.R_drewN | apply Kd.R_drew)); exact HO222.out) hb); have n5_ := Aside0.mk (Kd.R_below (by (with_reducible repeat (first | apply Kd.R_alloc | apply Kd.R_drewN | apply Kd.R_drew)); exact HO225.out) hb); have n6_ := Aside0.mk (Kd.R_below (by (with_reducible repeat (first | apply Kd.R_alloc | apply Kd.R_drewN | apply Kd.R_drew)); exact HO229.out) hb); have n7_ := Aside0.mk (Kd.R_below (by (with_reducible repeat (first | apply Kd.R_alloc | apply Kd.R_drewN | apply Kd.R_drew)); exact HO232.out) hb); have n8_ := Aside0.mk (blk_below (g := gb204) (o := .cells #[.slice A0_0 l0_0.length c0_0, .slice A0_1 l0_1.length c0_1] 37 (0, 0)) (by (with_reducible repeat (first | refine blk_drewN ?_ _ | refine blk_drew ?_ | refine blk_alloc ?_ _)); exact BK204.out) hb); have n9_ := Aside0.mk (blk_below (g := gb219) (o := .cells #[.slice Ao21 t212.length co21, .slice Ao24 t215.length co24] 26 (0, 0)) (by (with_reducible repeat (first | refine blk_drewN ?_ _ | refine blk_drew ?_ | refine blk_alloc ?_ _)); exact BK219.out) hb); have n10_ := Aside0.mk (blk_below (g := gb226) (o := .cells #[.slice Ao28 t220.length co28, .slice Ao32 t223.length co32] 26 (0, 0)) (by (with_reducible repeat (first | refine blk_drewN ?_ _ | refine blk_drew ?_ | refine blk_alloc ?_ _)); exact BK226.out) hb); have n11_ := Aside0.mk (below_step (by repeat (first | (with_reducible first | exact HB.out | apply below_alloc | apply pw_below_drewN | apply below_drew1 | refine below_set ?_ GE204.out | refine below_set ?_ GE219.out | refine below_set ?_ GE226.out) | exact HB.out)) hb); have n12_ := Aside0.mk (hbox); have n13_ := Aside0.mk ((by rw [hg]; exact (below_size (by repeat (first | (with_reducible first | exact HB.out | apply below_alloc | apply pw_below_drewN | apply below_drew1 | refine below_set ?_ GE204.out | refine below_set ?_ GE219.out | refine below_set ?_ GE226.out) | exact HB.out))) : w.heap.size ≤ gb234)); have n14_ := Aside0.mk ((by rw [hg]; exact (below_size (by repeat (first | (with_reducible first | exact HB.out | apply below_alloc | apply pw_below_drewN | apply below_drew1 | refine below_set ?_ GE204.out | refine below_set ?_ GE219.out | refine below_set ?_ GE226.out) | exact HB.out))) : w.heap.size ≤ gb234)); have n15_ := Aside0.mk ((by rw [hg]; exact Nat.ne_of_lt (blk_lt (g := gb204) (o := .cells #[.slice A0_0 l0_0.length c0_0, .slice A0_1 l0_1.length c0_1] 37 (0, 0)) (by (with_reducible repeat (first | refine blk_drewN ?_ _ | refine blk_drew ?_ | refine blk_alloc ?_ _)); exact BK204.out)) : gb204 ≠ gb234)); have n16_ := Aside0.mk ((by rw [hg]; exact Nat.ne_of_gt (blk_lt (g := gb204) (o := .cells #[.slice A0_0 l0_0.length c0_0, .slice A0_1 l0_1.length c0_1] 37 (0, 0)) (by (with_reducible repeat (first | refine blk_drewN ?_ _ | refine blk_drew ?_ | refine blk_alloc ?_ _)); exact BK204.out)) : gb234 ≠ gb204)); have n17_ := Aside0.mk ((by rw [hg]; exact Nat.ne_of_lt (blk_lt (g := gb219) (o := .cells #[.slice Ao21 t212.length co21, .slice Ao24 t215.length co24] 26 (0, 0)) (by (with_reducible repeat (first | refine blk_drewN ?_ _ | refine blk_drew ?_ | refine blk_alloc ?_ _)); exact BK219.out)) : gb219 ≠ gb234)); have n18_ := Aside0.mk ((by rw [hg]; exact Nat.ne_of_gt (blk_lt (g := gb219) (o := .cells #[.slice Ao21 t212.length co21, .slice Ao24 t215.length co24] 26 (0, 0)) (by (with_reducible repeat (first | refine blk_drewN ?_ _ | refine blk_drew ?_ | refine blk_alloc ?_ _)); exact BK219.out)) : gb234 ≠ gb219)); have n19_ := Aside0.mk ((by rw [hg]; exact Nat.ne_of_lt (blk_lt (g := gb226) (o := .cells #[.slice Ao28 t220.length co28, .slice Ao32 t223.length co32] 26 (0, 0)) (by (with_reducible repeat (first | refine blk_drewN ?_ _ | refine blk_drew ?_ | refine blk_alloc ?_ _)); exact BK226.out)) : gb226 ≠ gb234)); have n20_ := Aside0.mk ((by rw [hg]; exact Nat.ne_of_gt (blk_lt (g := gb226) (o := .cells #[.slice Ao28 t220.length co28, .slice Ao32 t223.length co32] 26 (0, 0)) (by (with_reducible repeat (first | refine blk_drewN ?_ _ | refine blk_drew ?_ | refine blk_alloc ?_ _)); exact BK226.out)) : gb234 ≠ gb226)); clear HO208; clear HO211; clear HO214; clear HO217; clear HO222; clear HO225; clear HO229; clear HO232; clear BK204; clear BK219; clear BK226; clear HB; have HO208 := n0_; have HO211 := n1_; have HO214 := n2_; have HO217 := n3_; have HO222 := n4_; have HO225 := n5_; have HO229 := n6_; have HO232 := n7_; have BK204 := n8_; have BK219 := n9_; have BK226 := n10_; have HB := n11_; have BK234 := n12_; have GW234 := n13_; have GE234 := n14_; have NB204_234 := n15_; have NB234_204 := n16_; have NB219_234 := n17_; have NB234_219 := n18_; have NB226_234 := n19_; have NB234_226 := n20_; clear n0_ n1_ n2_ n3_ n4_ n5_ n6_ n7_ n8_ n9_ n10_ n11_ n12_ n13_ n14_ n15_ n16_ n17_ n18_ n19_ n20_; clear hb hbox hg; obtain ⟨Ao35, co35, eo35⟩ := Kd.R_slice HO229.out; subst eo35; have hnb36 := NB234_204.out; have hnc36 := NB204_234.out; have hnb37 := NB234_219.out; have hnc37 := NB219_234.out; have hnb38 := NB234_226.out; have hnc38 := NB226_234.out; have hcz39_0 : w34.cell? ⟨gb234, 0, none⟩ = some (.slice none 0 0) := (blk_cell BK234.out 0).trans rfl; have hcz39_1 : w34.cell? ⟨gb234, 1, none⟩ = some (.slice none 0 0) := (blk_cell BK234.out 1).trans rfl; have hfz39_0 := blk_frozen BK234.out 0; have hfz39_1 := blk_frozen BK234.out 1; obtain ⟨Ao40, co40, eo40⟩ := Kd.R_slice HO232.out; subst eo40))
    (try simp only [Act.put, List.setIfInBounds_toArray, List.set_cons_zero, List.set_cons_succ])
    go_cut [40] (fun v40 wc => ∃ (kq : Nat) (x40_10 : Bool), v40 = .bool x40_10 ∧ Aside0 (laws_FnExactIota.j0 kq t218 t233 x40_10 l0_0 l0_1 t212 t215 t220 t223 t227 t230 = some r) ∧ Aside0 (kq ≤ k) ∧ Aside0 (Kd.R (Kd.int .i64) 3 wc w.heap.size (fun k_ => some k_ ≠ ((.slice Ao24 t215.length co24) : Value).ownBlock ∧ some k_ ≠ ((.slice Ao28 t220.length co28) : Value).ownBlock ∧ some k_ ≠ ((.slice Ao32 t223.length co32) : Value).ownBlock ∧ some k_ ≠ ((.slice Ao35 t227.length co35) : Value).ownBlock ∧ some k_ ≠ ((.slice Ao40 t230.length co40) : Value).ownBlock) (.slice Ao21 t212.length co21) t212) ∧ Aside0 (Kd.R (Kd.int .i64) 3 wc w.heap.size (fun k_ => some k_ ≠ ((.slice Ao21 t212.length co21) : Value).ownBlock ∧ some k_ ≠ ((.slice Ao28 t220.length co28) : Value).ownBlock ∧ some k_ ≠ ((.slice Ao32 t223.length co32) : Value).ownBlock ∧ some k_ ≠ ((.slice Ao35 t227.length co35) : Value).ownBlock ∧ some k_ ≠ ((.slice Ao40 t230.length co40) : Value).ownBlock) (.slice Ao24 t215.length co24) t215) ∧ Aside0 (Kd.R (Kd.int .i64) 3 wc w.heap.size (fun k_ => some k_ ≠ ((.slice Ao21 t212.length co21) : Value).ownBlock ∧ some k_ ≠ ((.slice Ao24 t215.length co24) : Value).ownBlock ∧ some k_ ≠ ((.slice Ao32 t223.length co32) : Value).ownBlock ∧ some k_ ≠ ((.slice Ao35 t227.length co35) : Value).ownBlock ∧ some k_ ≠ ((.slice Ao40 t230.length co40) : Value).ownBlock) (.slice Ao28 t220.length co28) t220) ∧ Aside0 (Kd.R (Kd.int .i64) 3 wc w.heap.size (fun k_ => some k_ ≠ ((.slice Ao21 t212.length co21) : Value).ownBlock ∧ some k_ ≠ ((.slice Ao24 t215.length co24) : Value).ownBlock ∧ some k_ ≠ ((.slice Ao28 t220.length co28) : Value).ownBlock ∧ some k_ ≠ ((.slice Ao35 t227.length co35) : Value).ownBlock ∧ some k_ ≠ ((.slice Ao40 t230.length co40) : Value).ownBlock) (.slice Ao32 t223.length co32) t223) ∧ Aside0 (Kd.R (Kd.int .i64) 3 wc w.heap.size (fun k_ => some k_ ≠ ((.slice Ao21 t212.length co21) : Value).ownBlock ∧ some k_ ≠ ((.slice Ao24 t215.length co24) : Value).ownBlock ∧ some k_ ≠ ((.slice Ao28 t220.length co28) : Value).ownBlock ∧ some k_ ≠ ((.slice Ao32 t223.length co32) : Value).ownBlock ∧ some k_ ≠ ((.slice Ao40 t230.length co40) : Value).ownBlock) (.slice Ao35 t227.length co35) t227) ∧ Aside0 (Kd.R (Kd.int .i64) 3 wc w.heap.size (fun k_ => some k_ ≠ ((.slice Ao21 t212.length co21) : Value).ownBlock ∧ some k_ ≠ ((.slice Ao24 t215.length co24) : Value).ownBlock ∧ some k_ ≠ ((.slice Ao28 t220.length co28) : Value).ownBlock ∧ some k_ ≠ ((.slice Ao32 t223.length co32) : Value).ownBlock ∧ some k_ ≠ ((.slice Ao35 t227.length co35) : Value).ownBlock) (.slice Ao40 t230.length co40) t230) ∧ Aside0 (wc.heap[gb204]? = some (.cells #[(.slice A0_0 l0_0.length c0_0), (.slice A0_1 l0_1.length c0_1)] 37 (0, 0))) ∧ Aside0 (wc.heap[gb219]? = some (.cells #[(.slice Ao21 t212.length co21), (.slice Ao24 t215.length co24)] 26 (0, 0))) ∧ Aside0 (wc.heap[gb226]? = some (.cells #[(.slice Ao28 t220.length co28), (.slice Ao32 t223.length co32)] 26 (0, 0))) ∧ Aside0 (wc.heap[gb234]? = some (.cells #[(.slice Ao35 t227.length co35), (.slice Ao40 t230.length co40)] 26 (0, 0))) ∧ Aside0 (Below w.heap.size w wc))
    case first =>
      have H := HC11.out
      clear HC11
      replace H := Option.bind_eq_some_iff.mp H
      obtain ⟨t235, A410, H⟩ := H
      replace H : (if t235 = true then (laws_FnExactIota.j0 k t218 t233 (t233 != t218) l0_0 l0_1 t212 t215 t220 t223 t227 t230) else (laws_FnExactIota.j0 k t218 t233 true l0_0 l0_1 t212 t215 t220 t223 t227 t230)) = some r := H
      have A41 := Aside0.mk A410
      clear A410
      by_cases c42 : t235 = true
      · subst c42
        have H1 : (laws_FnExactIota.j0 k t218 t233 (t233 != t218) l0_0 l0_1 t212 t215 t220 t223 t227 t230) = some r := by rw [if_pos rfl] at H; exact H
        clear H
        have H := H1
        clear H1
        have H' := Aside0.mk H
        clear H
        have hnb43 := NB234_204.out
        have hnc43 := NB204_234.out
        have hnb44 := NB234_219.out
        have hnc44 := NB219_234.out
        have hnb45 := NB234_226.out
        have hnc45 := NB226_234.out
        have hcz46_0 : w34.cell? ⟨gb234, 0, none⟩ = some (.slice none 0 0) := (blk_cell BK234.out 0).trans rfl
        have hcz46_1 : w34.cell? ⟨gb234, 1, none⟩ = some (.slice none 0 0) := (blk_cell BK234.out 1).trans rfl
        have hfz46_0 := blk_frozen BK234.out 0
        have hfz46_1 := blk_frozen BK234.out 1
        have hnb47 := NB219_204.out
        have hnc47 := NB204_219.out
        have hnb48 := NB219_226.out
        have hnc48 := NB226_219.out
        have hcz49_0 : w34.cell? ⟨gb219, 0, none⟩ = some (.slice Ao21 t212.length co21) := (blk_cell BK219.out 0).trans rfl
        have hcz49_1 : w34.cell? ⟨gb219, 1, none⟩ = some (.slice Ao24 t215.length co24) := (blk_cell BK219.out 1).trans rfl
        have hfz49_0 := blk_frozen BK219.out 0
        have hfz49_1 := blk_frozen BK219.out 1
        go_wp2_with (first | ((with_reducible refine gate_callee (f := 28) rfl ?_); refine goesL_ (some 34) rfl rfl Try.func28 (by kernel_rfl) rfl #[.agg #[.slice Ao35 t227.length co35, .slice Ao40 t230.length co40], .agg #[.slice Ao21 t212.length co21, .slice Ao24 t215.length co24]] rfl (by (try simp only [List.map_toArray, List.map_cons, List.map_nil]); first | done | rfl | (simp only [List.length_drop, List.length_take]; rfl)) ?_; (with_reducible refine (laws_eqArray.calls k _ _ t227 _ _ t230 _ _ t212 _ _ t215 true _ ?side1 ?side2 ?side3 ?side4 ?side5 ?side6 ?side7 ?side8 A41.out).mono ?_); (case side1 => refine (Kd.R_reads' (e := 3) (base := w.heap.size) (ok := fun k_ => ((((((some k_ ≠ (.slice Ao40 t230.length co40 : Value).ownBlock ∧ some k_ ≠ (.slice Ao17 t206.length co17 : Value).ownBlock) ∧ some k_ ≠ (.slice Ao18 t209.length co18 : Value).ownBlock) ∧ some k_ ≠ (.slice Ao21 t212.length co21 : Value).ownBlock) ∧ some k_ ≠ (.slice Ao24 t215.length co24 : Value).ownBlock) ∧ some k_ ≠ (.slice Ao28 t220.length co28 : Value).ownBlock) ∧ some k_ ≠ (.slice Ao32 t223.length co32 : Value).ownBlock)) (n := t227.length) (c := co35) ?_).2.2; exact (by (with_reducible repeat (first | apply Kd.R_alloc | apply Kd.R_drewN | apply Kd.R_drew)); exact (Kd.R_mono (Kd.R_far (p := ⟨gb234, 1, none⟩) (Kd.R_far (p := ⟨gb234, 0, none⟩) (Kd.R_types HO229.out BK234.out (by decide)) (fun _ hk => hk.2) (.slice Ao35 t227.length co35)) (fun _ hk => hk.2) (.slice Ao40 t230.length co40)) (fun _ h_ => h_.1)))); (case side2 => exact (Kd.R_reads' HO229.out).2.1); (case side3 => refine (Kd.R_reads' (e := 3) (base := w.heap.size) (ok := fun k_ => ((((((some k_ ≠ (.slice Ao35 t227.length co35 : Value).ownBlock ∧ some k_ ≠ (.slice Ao17 t206.length co17 : Value).ownBlock) ∧ some k_ ≠ (.slice Ao18 t209.length co18 : Value).ownBlock) ∧ some k_ ≠ (.slice Ao21 t212.length co21 : Value).ownBlock) ∧ some k_ ≠ (.slice Ao24 t215.length co24 : Value).ownBlock) ∧ some k_ ≠ (.slice Ao28 t220.length co28 : Value).ownBlock) ∧ some k_ ≠ (.slice Ao32 t223.length co32 : Value).ownBlock)) (n := t230.length) (c := co40) ?_).2.2; exact (by (with_reducible repeat (first | apply Kd.R_alloc | apply Kd.R_drewN | apply Kd.R_drew)); exact (Kd.R_mono (Kd.R_far (p := ⟨gb234, 1, none⟩) (Kd.R_far (p := ⟨gb234, 0, none⟩) (Kd.R_types HO232.out BK234.out (by decide)) (fun _ hk => hk.2) (.slice Ao35 t227.length co35)) (fun _ hk => hk.2) (.slice Ao40 t230.length co40)) (fun _ h_ => h_.1)))); (case side4 => exact (Kd.R_reads' HO232.out).2.1); (case side5 => refine (Kd.R_reads' (e := 3) (base := w.heap.size) (ok := fun k_ => ((((((some k_ ≠ (.slice Ao24 t215.length co24 : Value).ownBlock ∧ some k_ ≠ (.slice Ao17 t206.length co17 : Value).ownBlock) ∧ some k_ ≠ (.slice Ao18 t209.length co18 : Value).ownBlock) ∧ some k_ ≠ (.slice Ao28 t220.length co28 : Value).ownBlock) ∧ some k_ ≠ (.slice Ao32 t223.length co32 : Value).ownBlock) ∧ some k_ ≠ (.slice Ao35 t227.length co35 : Value).ownBlock) ∧ some k_ ≠ (.slice Ao40 t230.length co40 : Value).ownBlock)) (n := t212.length) (c := co21) ?_).2.2; exact (by (with_reducible repeat (first | apply Kd.R_alloc | apply Kd.R_drewN | apply Kd.R_drew)); exact (Kd.R_mono (Kd.R_far (p := ⟨gb234, 1, none⟩) (Kd.R_far (p := ⟨gb234, 0, none⟩) (Kd.R_types HO214.out BK234.out (by decide)) (fun _ hk => hk.2) (.slice Ao35 t227.length co35)) (fun _ hk => hk.2) (.slice Ao40 t230.length co40)) (fun _ h_ => h_.1)))); (case side6 => exact (Kd.R_reads' HO214.out).2.1); (case side7 => refine (Kd.R_reads' (e := 3) (base := w.heap.size) (ok := fun k_ => ((((((some k_ ≠ (.slice Ao21 t212.length co21 : Value).ownBlock ∧ some k_ ≠ (.slice Ao17 t206.length co17 : Value).ownBlock) ∧ some k_ ≠ (.slice Ao18 t209.length co18 : Value).ownBlock) ∧ some k_ ≠ (.slice Ao28 t220.length co28 : Value).ownBlock) ∧ some k_ ≠ (.slice Ao32 t223.length co32 : Value).ownBlock) ∧ some k_ ≠ (.slice Ao35 t227.length co35 : Value).ownBlock) ∧ some k_ ≠ (.slice Ao40 t230.length co40 : Value).ownBlock)) (n := t215.length) (c := co24) ?_).2.2; exact (by (with_reducible repeat (first | apply Kd.R_alloc | apply Kd.R_drewN | apply Kd.R_drew)); exact (Kd.R_mono (Kd.R_far (p := ⟨gb234, 1, none⟩) (Kd.R_far (p := ⟨gb234, 0, none⟩) (Kd.R_types HO217.out BK234.out (by decide)) (fun _ hk => hk.2) (.slice Ao35 t227.length co35)) (fun _ hk => hk.2) (.slice Ao40 t230.length co40)) (fun _ h_ => h_.1)))); (case side8 => exact (Kd.R_reads' HO217.out).2.1); rintro e w50 ⟨rfl, hb⟩; refine ⟨_, rfl, ?_⟩; have n0_ := Aside0.mk (Kd.R_below (by (with_reducible repeat (first | apply Kd.R_alloc | apply Kd.R_drewN | apply Kd.R_drew)); exact (Kd.R_mono (Kd.R_far (p := ⟨gb234, 1, none⟩) (Kd.R_far (p := ⟨gb234, 0, none⟩) (Kd.R_types HO208.out BK234.out (by decide)) (fun _ hk => hk.2) (.slice Ao35 t227.length co35)) (fun _ hk => hk.2) (.slice Ao40 t230.length co40)) (fun _ h_ => h_.1))) hb); have n1_ := Aside0.mk (Kd.R_below (by (with_reducible repeat (first | apply Kd.R_alloc | apply Kd.R_drewN | apply Kd.R_drew)); exact (Kd.R_mono (Kd.R_far (p := ⟨gb234, 1, none⟩) (Kd.R_far (p := ⟨gb234, 0, none⟩) (Kd.R_types HO211.out BK234.out (by decide)) (fun _ hk => hk.2) (.slice Ao35 t227.length co35)) (fun _ hk => hk.2) (.slice Ao40 t230.length co40)) (fun _ h_ => h_.1))) hb); have n2_ := Aside0.mk (Kd.R_below (by (with_reducible repeat (first | apply Kd.R_alloc | apply Kd.R_drewN | apply Kd.R_drew)); exact (Kd.R_mono (Kd.R_far (p := ⟨gb234, 1, none⟩) (Kd.R_far (p := ⟨gb234, 0, none⟩) (Kd.R_types HO214.out BK234.out (by decide)) (fun _ hk => hk.2) (.slice Ao35 t227.length co35)) (fun _ hk => hk.2) (.slice Ao40 t230.length co40)) (fun _ h_ => h_.1))) hb); have n3_ := Aside0.mk (Kd.R_below (by (with_reducible repeat (first | apply Kd.R_alloc | apply Kd.R_drewN | apply Kd.R_drew)); exact (Kd.R_mono (Kd.R_far (p := ⟨gb234, 1, none⟩) (Kd.R_far (p := ⟨gb234, 0, none⟩) (Kd.R_types HO217.out BK234.out (by decide)) (fun _ hk => hk.2) (.slice Ao35 t227.length co35)) (fun _ hk => hk.2) (.slice Ao40 t230.length co40)) (fun _ h_ => h_.1))) hb); have n4_ := Aside0.mk (Kd.R_below (by (with_reducible repeat (first | apply Kd.R_alloc | apply Kd.R_drewN | apply Kd.R_drew)); exact (Kd.R_mono (Kd.R_far (p := ⟨gb234, 1, none⟩) (Kd.R_far (p := ⟨gb234, 0, none⟩) (Kd.R_types HO222.out BK234.out (by decide)) (fun _ hk => hk.2) (.slice Ao35 t227.length co35)) (fun _ hk => hk.2) (.slice Ao40 t230.length co40)) (fun _ h_ => h_.1))) hb); have n5_ := Aside0.mk (Kd.R_below (by (with_reducible repeat (first | apply Kd.R_alloc | apply Kd.R_drewN | apply Kd.R_drew)); exact (Kd.R_mono (Kd.R_far (p := ⟨gb234, 1, none⟩) (Kd.R_far (p := ⟨gb234, 0, none⟩) (Kd.R_types HO225.out BK234.out (by decide)) (fun _ hk => hk.2) (.slice Ao35 t227.length co35)) (fun _ hk => hk.2) (.slice Ao40 t230.length co40)) (fun _ h_ => h_.1))) hb); have n6_ := Aside0.mk (Kd.R_below (by (with_reducible repeat (first | apply Kd.R_alloc | apply Kd.R_drewN | apply Kd.R_drew)); exact (Kd.R_mono (Kd.R_far (p := ⟨gb234, 1, none⟩) (Kd.R_far (p := ⟨gb234, 0, none⟩) (Kd.R_types HO229.out BK234.out (by decide)) (fun _ hk => hk.2) (.slice Ao35 t227.length co35)) (fun _ hk => hk.2) (.slice Ao40 t230.length co40)) (fun _ h_ => h_.1))) hb); have n7_ := Aside0.mk (Kd.R_below (by (with_reducible repeat (first | apply Kd.R_alloc | apply Kd.R_drewN | apply Kd.R_drew)); exact (Kd.R_mono (Kd.R_far (p := ⟨gb234, 1, none⟩) (Kd.R_far (p := ⟨gb234, 0, none⟩) (Kd.R_types HO232.out BK234.out (by decide)) (fun _ hk => hk.2) (.slice Ao35 t227.length co35)) (fun _ hk => hk.2) (.slice Ao40 t230.length co40)) (fun _ h_ => h_.1))) hb); have n8_ := Aside0.mk (blk_below (g := gb204) (o := .cells #[.slice A0_0 l0_0.length c0_0, .slice A0_1 l0_1.length c0_1] 37 (0, 0)) (by (with_reducible repeat (first | refine blk_drewN ?_ _ | refine blk_drew ?_ | refine blk_alloc ?_ _)); refine blk_far ?_ NB204_234.out _; (with_reducible repeat (first | refine blk_drewN ?_ _ | refine blk_drew ?_ | refine blk_alloc ?_ _)); refine blk_far ?_ NB204_234.out _; (with_reducible repeat (first | refine blk_drewN ?_ _ | refine blk_drew ?_ | refine blk_alloc ?_ _)); exact BK204.out) hb); have n9_ := Aside0.mk (blk_below (g := gb219) (o := .cells #[.slice Ao21 t212.length co21, .slice Ao24 t215.length co24] 26 (0, 0)) (by (with_reducible repeat (first | refine blk_drewN ?_ _ | refine blk_drew ?_ | refine blk_alloc ?_ _)); refine blk_far ?_ NB219_234.out _; (with_reducible repeat (first | refine blk_drewN ?_ _ | refine blk_drew ?_ | refine blk_alloc ?_ _)); refine blk_far ?_ NB219_234.out _; (with_reducible repeat (first | refine blk_drewN ?_ _ | refine blk_drew ?_ | refine blk_alloc ?_ _)); exact BK219.out) hb); have n10_ := Aside0.mk (blk_below (g := gb226) (o := .cells #[.slice Ao28 t220.length co28, .slice Ao32 t223.length co32] 26 (0, 0)) (by (with_reducible repeat (first | refine blk_drewN ?_ _ | refine blk_drew ?_ | refine blk_alloc ?_ _)); refine blk_far ?_ NB226_234.out _; (with_reducible repeat (first | refine blk_drewN ?_ _ | refine blk_drew ?_ | refine blk_alloc ?_ _)); refine blk_far ?_ NB226_234.out _; (with_reducible repeat (first | refine blk_drewN ?_ _ | refine blk_drew ?_ | refine blk_alloc ?_ _)); exact BK226.out) hb); have n11_ := Aside0.mk (blk_below (g := gb234) (o := .cells #[.slice Ao35 t227.length co35, .slice Ao40 t230.length co40] 26 (0, 0)) (by (with_reducible repeat (first | refine blk_drewN ?_ _ | refine blk_drew ?_ | refine blk_alloc ?_ _)); refine blk_put (cs := #[.slice Ao35 t227.length co35, .slice none 0 0]) ?_ 1 _ rfl; (with_reducible repeat (first | refine blk_drewN ?_ _ | refine blk_drew ?_ | refine blk_alloc ?_ _)); refine blk_put (cs := #[.slice none 0 0, .slice none 0 0]) ?_ 0 _ rfl; (with_reducible repeat (first | refine blk_drewN ?_ _ | refine blk_drew ?_ | refine blk_alloc ?_ _)); exact BK234.out) hb); have n12_ := Aside0.mk (below_step (by repeat (first | (with_reducible first | exact HB.out | apply below_alloc | apply pw_below_drewN | apply below_drew1 | refine below_set ?_ GE204.out | refine below_set ?_ GE219.out | refine below_set ?_ GE226.out | refine below_set ?_ GE234.out) | exact HB.out)) hb); clear HO208; clear HO211; clear HO214; clear HO217; clear HO222; clear HO225; clear HO229; clear HO232; clear BK204; clear BK219; clear BK226; clear BK234; clear HB; have HO208 := n0_; have HO211 := n1_; have HO214 := n2_; have HO217 := n3_; have HO222 := n4_; have HO225 := n5_; have HO229 := n6_; have HO232 := n7_; have BK204 := n8_; have BK219 := n9_; have BK226 := n10_; have BK234 := n11_; have HB := n12_; clear n0_ n1_ n2_ n3_ n4_ n5_ n6_ n7_ n8_ n9_ n10_ n11_ n12_; (try clear hb); (try clear hb2); (try clear hk); (try clear hi)))
        go_meet
        case rel => exact ⟨_, ((t233 != t218)), (by first | rfl | (simp; done) | (simp [*]; done)), H', ⟨by first | omega | exact Nat.le_refl _⟩, ⟨by (with_reducible repeat (first | apply Kd.R_alloc | apply Kd.R_drewN | apply Kd.R_drew)); exact Kd.R_mono HO214.out (fun _ hk => ⟨hk.1.1.1.1.1.1, ⟨hk.1.1.1.2, ⟨hk.1.1.2, ⟨hk.1.2, hk.2⟩⟩⟩⟩)⟩, ⟨by (with_reducible repeat (first | apply Kd.R_alloc | apply Kd.R_drewN | apply Kd.R_drew)); exact Kd.R_mono HO217.out (fun _ hk => ⟨hk.1.1.1.1.1.1, ⟨hk.1.1.1.2, ⟨hk.1.1.2, ⟨hk.1.2, hk.2⟩⟩⟩⟩)⟩, ⟨by (with_reducible repeat (first | apply Kd.R_alloc | apply Kd.R_drewN | apply Kd.R_drew)); exact Kd.R_mono HO222.out (fun _ hk => ⟨hk.1.1.1.2, ⟨hk.1.1.2, ⟨hk.1.1.1.1.1.1, ⟨hk.1.2, hk.2⟩⟩⟩⟩)⟩, ⟨by (with_reducible repeat (first | apply Kd.R_alloc | apply Kd.R_drewN | apply Kd.R_drew)); exact Kd.R_mono HO225.out (fun _ hk => ⟨hk.1.1.1.2, ⟨hk.1.1.2, ⟨hk.1.1.1.1.1.1, ⟨hk.1.2, hk.2⟩⟩⟩⟩)⟩, ⟨by (with_reducible repeat (first | apply Kd.R_alloc | apply Kd.R_drewN | apply Kd.R_drew)); exact Kd.R_mono HO229.out (fun _ hk => ⟨hk.1.1.1.2, ⟨hk.1.1.2, ⟨hk.1.2, ⟨hk.2, hk.1.1.1.1.1.1⟩⟩⟩⟩)⟩, ⟨by (with_reducible repeat (first | apply Kd.R_alloc | apply Kd.R_drewN | apply Kd.R_drew)); exact Kd.R_mono HO232.out (fun _ hk => ⟨hk.1.1.1.2, ⟨hk.1.1.2, ⟨hk.1.2, ⟨hk.2, hk.1.1.1.1.1.1⟩⟩⟩⟩)⟩, ⟨by (with_reducible repeat (first | refine blk_drewN ?_ _ | refine blk_drew ?_ | refine blk_alloc ?_ _)); exact BK204.out⟩, ⟨by (with_reducible repeat (first | refine blk_drewN ?_ _ | refine blk_drew ?_ | refine blk_alloc ?_ _)); exact BK219.out⟩, ⟨by (with_reducible repeat (first | refine blk_drewN ?_ _ | refine blk_drew ?_ | refine blk_alloc ?_ _)); exact BK226.out⟩, ⟨by (with_reducible repeat (first | refine blk_drewN ?_ _ | refine blk_drew ?_ | refine blk_alloc ?_ _)); exact BK234.out⟩, ⟨by repeat (first | (with_reducible first | exact HB.out | apply below_alloc | apply pw_below_drewN | apply below_drew1 | refine below_set ?_ GE204.out | refine below_set ?_ GE219.out | refine below_set ?_ GE226.out | refine below_set ?_ GE234.out) | exact HB.out)⟩⟩
      · replace c42 := Bool.eq_false_iff.mpr c42
        subst c42
        have H1 : (laws_FnExactIota.j0 k t218 t233 true l0_0 l0_1 t212 t215 t220 t223 t227 t230) = some r := by rw [if_neg (show ¬ (false = true) by decide)] at H; exact H
        clear H
        have H := H1
        clear H1
        have hz_ : ∀ kz, laws_FnExactIota.j0 kz t218 t233 true l0_0 l0_1 t212 t215 t220 t223 t227 t230 = some r → r = false := by intro kz hz; cases kz with | zero => exact absurd hz (by simp [laws_FnExactIota.j0]) | succ kz => simp only [laws_FnExactIota.j0] at hz; first | (rw [if_pos rfl] at hz; exact (Option.some.inj hz).symm) | (simp at hz; exact hz.symm) | (simp at hz; exact hz)
        exact absurd (HT.out.symm.trans (hz_ _ H)) (by decide)
    case rest =>
      clear HC11
      try clear c2
      try clear p2
      try clear c3
      try clear c3b0
      try clear c4
      try clear c7
      try clear c22
      try clear c23
      try clear c25
      try clear c28
      try clear c29
      try clear c30
      try clear c36
      try clear c37
      try clear c38
      try clear c42
      try clear c43
      try clear c44
      try clear c45
      try clear c47
      try clear c48
      try clear hcz13_0
      try clear hcz13_1
      try clear hcz15_0
      try clear hcz15_1
      try clear hcz23_0
      try clear hcz23_1
      try clear hcz25_0
      try clear hcz25_1
      try clear hcz31_0
      try clear hcz31_1
      try clear hcz39_0
      try clear hcz39_1
      try clear hcz46_0
      try clear hcz46_1
      try clear hcz49_0
      try clear hcz49_1
      try clear hcz5_0
      try clear hcz5_1
      try clear hfz13_0
      try clear hfz13_1
      try clear hfz15_0
      try clear hfz15_1
      try clear hfz23_0
      try clear hfz23_1
      try clear hfz25_0
      try clear hfz25_1
      try clear hfz31_0
      try clear hfz31_1
      try clear hfz39_0
      try clear hfz39_1
      try clear hfz46_0
      try clear hfz46_1
      try clear hfz49_0
      try clear hfz49_1
      try clear hfz5_0
      try clear hfz5_1
      obtain ⟨kq, x40_10, rfl, HA, HJ10, HO_220000, HO_220001, HO_227000, HO_227001, HO_235000, HO_235001, BK204, BK219, BK226, BK234, HB⟩ := hcut
      cases kq with
      | zero => exact absurd HA.out (by simp [laws_FnExactIota.j0])
      | succ kj10 =>
        have H := HA.out
        clear HA
        simp only [laws_FnExactIota.j0] at H
        by_cases c51 : x40_10 = true
        · subst c51
          have H1 : (some false) = some r := by rw [if_pos rfl] at H; exact H
          clear H
          have H := H1
          clear H1
          obtain rfl := Option.some.inj H
          exact absurd HT.out (by decide)
        · replace c51 := Bool.eq_false_iff.mpr c51
          subst c51
          have H1 : ((laws_toArray.f kj10 l0_0 l0_1).bind fun bt236 => ((laws_eqArray.f kj10 t220 t223 bt236.1 bt236.2).bind fun t242 => (if t242 = true then ((laws_markArray.f kj10 t220 t223 1).bind fun bt243 => (if bt243.1 < 0 then (laws_FnExactIota.j1 kj10 t218 true l0_0 l0_1 t212 t215 t227 t230) else ((laws_eqArray.f kj10 t227 t230 t212 t215).bind fun t246 => (if t246 = true then (laws_FnExactIota.j1 kj10 t218 (t233 != t218) l0_0 l0_1 t212 t215 t227 t230) else (laws_FnExactIota.j1 kj10 t218 true l0_0 l0_1 t212 t215 t227 t230))))) else (some false)))) = some r := by rw [if_neg (show ¬ (false = true) by decide)] at H; exact H
          clear H
          have H := H1
          clear H1
          replace H := Option.bind_eq_some_iff.mp H
          obtain ⟨⟨t236, t239⟩, A520, H⟩ := H
          replace H : ((laws_eqArray.f kj10 t220 t223 t236 t239).bind fun t242 => (if t242 = true then ((laws_markArray.f kj10 t220 t223 1).bind fun bt243 => (if bt243.1 < 0 then (laws_FnExactIota.j1 kj10 t218 true l0_0 l0_1 t212 t215 t227 t230) else ((laws_eqArray.f kj10 t227 t230 t212 t215).bind fun t246 => (if t246 = true then (laws_FnExactIota.j1 kj10 t218 (t233 != t218) l0_0 l0_1 t212 t215 t227 t230) else (laws_FnExactIota.j1 kj10 t218 true l0_0 l0_1 t212 t215 t227 t230))))) else (some false))) = some r := H
          have A52 := Aside0.mk A520
          clear A520
          replace H := Option.bind_eq_some_iff.mp H
          obtain ⟨t242, A530, H⟩ := H
          replace H : (if t242 = true then ((laws_markArray.f kj10 t220 t223 1).bind fun bt243 => (if bt243.1 < 0 then (laws_FnExactIota.j1 kj10 t218 true l0_0 l0_1 t212 t215 t227 t230) else ((laws_eqArray.f kj10 t227 t230 t212 t215).bind fun t246 => (if t246 = true then (laws_FnExactIota.j1 kj10 t218 (t233 != t218) l0_0 l0_1 t212 t215 t227 t230) else (laws_FnExactIota.j1 kj10 t218 true l0_0 l0_1 t212 t215 t227 t230))))) else (some false)) = some r := H
          have A53 := Aside0.mk A530
          clear A530
          by_cases c54 : t242 = true
          · subst c54
            have H1 : ((laws_markArray.f kj10 t220 t223 1).bind fun bt243 => (if bt243.1 < 0 then (laws_FnExactIota.j1 kj10 t218 true l0_0 l0_1 t212 t215 t227 t230) else ((laws_eqArray.f kj10 t227 t230 t212 t215).bind fun t246 => (if t246 = true then (laws_FnExactIota.j1 kj10 t218 (t233 != t218) l0_0 l0_1 t212 t215 t227 t230) else (laws_FnExactIota.j1 kj10 t218 true l0_0 l0_1 t212 t215 t227 t230))))) = some r := by rw [if_pos rfl] at H; exact H
            clear H
            have H := H1
            clear H1
            replace H := Option.bind_eq_some_iff.mp H
            obtain ⟨⟨t243, t244, t245⟩, A550, H⟩ := H
            replace H : (if t243 < 0 then (laws_FnExactIota.j1 kj10 t218 true l0_0 l0_1 t212 t215 t227 t230) else ((laws_eqArray.f kj10 t227 t230 t212 t215).bind fun t246 => (if t246 = true then (laws_FnExactIota.j1 kj10 t218 (t233 != t218) l0_0 l0_1 t212 t215 t227 t230) else (laws_FnExactIota.j1 kj10 t218 true l0_0 l0_1 t212 t215 t227 t230)))) = some r := H
            have A55 := Aside0.mk A550
            clear A550
            have HC56 := Aside0.mk H
            clear H
            try go_wp2
            have n0_ := Aside0.mk (Kd.R_drew HO_220000.out)
            have n1_ := Aside0.mk (Kd.R_drew HO_220001.out)
            have n2_ := Aside0.mk (Kd.R_drew HO_227000.out)
            have n3_ := Aside0.mk (Kd.R_drew HO_227001.out)
            have n4_ := Aside0.mk (Kd.R_drew HO_235000.out)
            have n5_ := Aside0.mk (Kd.R_drew HO_235001.out)
            have n6_ := Aside0.mk (blk_drew BK204.out)
            have n7_ := Aside0.mk (blk_drew BK219.out)
            have n8_ := Aside0.mk (blk_drew BK226.out)
            have n9_ := Aside0.mk (blk_drew BK234.out)
            have n10_ := Aside0.mk (below_drew1 HB.out)
            clear HO_220000
            clear HO_220001
            clear HO_227000
            clear HO_227001
            clear HO_235000
            clear HO_235001
            clear BK204
            clear BK219
            clear BK226
            clear BK234
            clear HB
            have HO_220000 := n0_
            have HO_220001 := n1_
            have HO_227000 := n2_
            have HO_227001 := n3_
            have HO_235000 := n4_
            have HO_235001 := n5_
            have BK204 := n6_
            have BK219 := n7_
            have BK226 := n8_
            have BK234 := n9_
            have HB := n10_
            clear n0_ n1_ n2_ n3_ n4_ n5_ n6_ n7_ n8_ n9_ n10_
            refine start_ (n := 5) (S := fun w' => w'.cell? ⟨gb226, 0, none⟩ = some (.slice Ao28 t220.length co28) ∧ w'.cell? ⟨gb226, 1, none⟩ = some (.slice Ao32 t223.length co32) ∧ w'.cell? ⟨gb204, 0, none⟩ = some (.slice A0_0 l0_0.length c0_0) ∧ w'.cell? ⟨gb204, 1, none⟩ = some (.slice A0_1 l0_1.length c0_1)) (ds := []) #[false, false, false, false, false] (by kernel_rfl) rfl rfl ⟨(blk_cell BK226.out 0).trans rfl, (blk_cell BK226.out 1).trans rfl, (blk_cell BK204.out 0).trans rfl, (blk_cell BK204.out 1).trans rfl⟩ (fun hHeld => ?_)
            generalize wc.drew = w57 at HO_220000 HO_220001 HO_227000 HO_227001 HO_235000 HO_235001 BK204 BK219 BK226 BK234 HB hHeld ⊢
            refine take_ (i := 0) (N := some 41) (v := ?_) (a' := ?_) #[true, false, false, false, false] rfl rfl (by kernel_rfl) (fun _ _ _ h => h) (Or.inl ⟨by rfl, ?_⟩) hHeld ?_ ?_
            rotate_left
            · rintro w' ⟨s0, s1, s2, s3⟩
              go_simp
              with_reducible rfl
            rotate_left
            · simp only [Act.put, List.setIfInBounds_toArray, List.set_cons_zero, List.set_cons_succ, i64_w, i32_w]
              rfl
            refine take_ (i := 1) (N := some 42) (v := ?_) (a' := ?_) #[true, true, false, false, false] rfl rfl (by kernel_rfl) (fun _ _ _ h => h) (Or.inl ⟨by rfl, ?_⟩) hHeld ?_ ?_
            rotate_left
            · rintro w' ⟨s0, s1, s2, s3⟩
              go_simp
              with_reducible rfl
            rotate_left
            · simp only [Act.put, List.setIfInBounds_toArray, List.set_cons_zero, List.set_cons_succ, i64_w, i32_w]
              rfl
            refine one_ (i := 2) (N := some 43) #[true, true, true, false, false] rfl rfl (by kernel_rfl) (by decide) (fun K hK => ?_)
            refine goes_ Try.func25 (by kernel_rfl) rfl #[.agg #[.slice A0_0 l0_0.length c0_0, .slice A0_1 l0_1.length c0_1]] (by rfl) rfl rfl (by (try simp only [List.map_toArray, List.map_cons, List.map_nil]); first | done | rfl | (simp only [List.length_drop, List.length_take]; rfl)) ?_
            with_reducible refine (laws_toArray.calls kj10 _ _ l0_0 _ _ l0_1 t236 t239 _ ?side1 ?side2 ?side3 ?side4 A52.out).mono ?_
            (case side1 => repeat (first | exact (Kd.C_below HR0_0.out HB.out) | (with_reducible refine Kd.C_alloc ?_ _) | (with_reducible refine Kd.C_drewN ?_ _) | (with_reducible refine Kd.C_drew ?_)))
            (case side2 => exact HC0_0.out)
            (case side3 => repeat (first | exact (Kd.C_below HR0_1.out HB.out) | (with_reducible refine Kd.C_alloc ?_ _) | (with_reducible refine Kd.C_drewN ?_ _) | (with_reducible refine Kd.C_drew ?_)))
            (case side4 => exact HC0_1.out)
            rintro e w58 ⟨v237, v240, rfl, ho0, ho1, hb⟩
            refine ⟨_, rfl, ?_⟩
            have n0_ := Aside0.mk (Kd.R_mono (Kd.R_told (Kd.R_told (Kd.R_old (by (with_reducible repeat (first | apply Kd.R_alloc | apply Kd.R_drewN | apply Kd.R_drew)); exact HO_220000.out) hb) (Kd.R_base ho0)) (Kd.R_base ho1)) (fun _ h_ => h_.1))
            have n1_ := Aside0.mk (Kd.R_mono (Kd.R_told (Kd.R_told (Kd.R_old (by (with_reducible repeat (first | apply Kd.R_alloc | apply Kd.R_drewN | apply Kd.R_drew)); exact HO_220001.out) hb) (Kd.R_base ho0)) (Kd.R_base ho1)) (fun _ h_ => h_.1))
            have n2_ := Aside0.mk (Kd.R_mono (Kd.R_told (Kd.R_told (Kd.R_old (by (with_reducible repeat (first | apply Kd.R_alloc | apply Kd.R_drewN | apply Kd.R_drew)); exact HO_227000.out) hb) (Kd.R_base ho0)) (Kd.R_base ho1)) (fun _ h_ => h_.1))
            have n3_ := Aside0.mk (Kd.R_mono (Kd.R_told (Kd.R_told (Kd.R_old (by (with_reducible repeat (first | apply Kd.R_alloc | apply Kd.R_drewN | apply Kd.R_drew)); exact HO_227001.out) hb) (Kd.R_base ho0)) (Kd.R_base ho1)) (fun _ h_ => h_.1))
            have n4_ := Aside0.mk (Kd.R_mono (Kd.R_told (Kd.R_told (Kd.R_old (by (with_reducible repeat (first | apply Kd.R_alloc | apply Kd.R_drewN | apply Kd.R_drew)); exact HO_235000.out) hb) (Kd.R_base ho0)) (Kd.R_base ho1)) (fun _ h_ => h_.1))
            have n5_ := Aside0.mk (Kd.R_mono (Kd.R_told (Kd.R_told (Kd.R_old (by (with_reducible repeat (first | apply Kd.R_alloc | apply Kd.R_drewN | apply Kd.R_drew)); exact HO_235001.out) hb) (Kd.R_base ho0)) (Kd.R_base ho1)) (fun _ h_ => h_.1))
            have n6_ := Aside0.mk (Kd.R_lower (Kd.R_new' (Kd.R_new' (Kd.R_new' (Kd.R_new' (Kd.R_new' (Kd.R_new' ho0 (Kd.R_lt (by (with_reducible repeat (first | apply Kd.R_alloc | apply Kd.R_drewN | apply Kd.R_drew)); exact HO_220000.out))) (Kd.R_lt (by (with_reducible repeat (first | apply Kd.R_alloc | apply Kd.R_drewN | apply Kd.R_drew)); exact HO_220001.out))) (Kd.R_lt (by (with_reducible repeat (first | apply Kd.R_alloc | apply Kd.R_drewN | apply Kd.R_drew)); exact HO_227000.out))) (Kd.R_lt (by (with_reducible repeat (first | apply Kd.R_alloc | apply Kd.R_drewN | apply Kd.R_drew)); exact HO_227001.out))) (Kd.R_lt (by (with_reducible repeat (first | apply Kd.R_alloc | apply Kd.R_drewN | apply Kd.R_drew)); exact HO_235000.out))) (Kd.R_lt (by (with_reducible repeat (first | apply Kd.R_alloc | apply Kd.R_drewN | apply Kd.R_drew)); exact HO_235001.out))) (below_size (by repeat (first | (with_reducible first | exact HB.out | apply below_alloc | apply pw_below_drewN | apply below_drew1 | refine below_set ?_ GE204.out | refine below_set ?_ GE219.out | refine below_set ?_ GE226.out | refine below_set ?_ GE234.out) | exact HB.out))))
            have n7_ := Aside0.mk (Kd.R_lower (Kd.R_new' (Kd.R_new' (Kd.R_new' (Kd.R_new' (Kd.R_new' (Kd.R_new' ho1 (Kd.R_lt (by (with_reducible repeat (first | apply Kd.R_alloc | apply Kd.R_drewN | apply Kd.R_drew)); exact HO_220000.out))) (Kd.R_lt (by (with_reducible repeat (first | apply Kd.R_alloc | apply Kd.R_drewN | apply Kd.R_drew)); exact HO_220001.out))) (Kd.R_lt (by (with_reducible repeat (first | apply Kd.R_alloc | apply Kd.R_drewN | apply Kd.R_drew)); exact HO_227000.out))) (Kd.R_lt (by (with_reducible repeat (first | apply Kd.R_alloc | apply Kd.R_drewN | apply Kd.R_drew)); exact HO_227001.out))) (Kd.R_lt (by (with_reducible repeat (first | apply Kd.R_alloc | apply Kd.R_drewN | apply Kd.R_drew)); exact HO_235000.out))) (Kd.R_lt (by (with_reducible repeat (first | apply Kd.R_alloc | apply Kd.R_drewN | apply Kd.R_drew)); exact HO_235001.out))) (below_size (by repeat (first | (with_reducible first | exact HB.out | apply below_alloc | apply pw_below_drewN | apply below_drew1 | refine below_set ?_ GE204.out | refine below_set ?_ GE219.out | refine below_set ?_ GE226.out | refine below_set ?_ GE234.out) | exact HB.out))))
            have n8_ := Aside0.mk (blk_below (g := gb204) (o := .cells #[.slice A0_0 l0_0.length c0_0, .slice A0_1 l0_1.length c0_1] 37 (0, 0)) (by (with_reducible repeat (first | refine blk_drewN ?_ _ | refine blk_drew ?_ | refine blk_alloc ?_ _)); exact BK204.out) hb)
            have n9_ := Aside0.mk (blk_below (g := gb219) (o := .cells #[.slice Ao21 t212.length co21, .slice Ao24 t215.length co24] 26 (0, 0)) (by (with_reducible repeat (first | refine blk_drewN ?_ _ | refine blk_drew ?_ | refine blk_alloc ?_ _)); exact BK219.out) hb)
            have n10_ := Aside0.mk (blk_below (g := gb226) (o := .cells #[.slice Ao28 t220.length co28, .slice Ao32 t223.length co32] 26 (0, 0)) (by (with_reducible repeat (first | refine blk_drewN ?_ _ | refine blk_drew ?_ | refine blk_alloc ?_ _)); exact BK226.out) hb)
            have n11_ := Aside0.mk (blk_below (g := gb234) (o := .cells #[.slice Ao35 t227.length co35, .slice Ao40 t230.length co40] 26 (0, 0)) (by (with_reducible repeat (first | refine blk_drewN ?_ _ | refine blk_drew ?_ | refine blk_alloc ?_ _)); exact BK234.out) hb)
            have n12_ := Aside0.mk (below_step (by repeat (first | (with_reducible first | exact HB.out | apply below_alloc | apply pw_below_drewN | apply below_drew1 | refine below_set ?_ GE204.out | refine below_set ?_ GE219.out | refine below_set ?_ GE226.out | refine below_set ?_ GE234.out) | exact HB.out)) hb)
            clear HO_220000
            clear HO_220001
            clear HO_227000
            clear HO_227001
            clear HO_235000
            clear HO_235001
            clear BK204
            clear BK219
            clear BK226
            clear BK234
            clear HB
            have HO_220000 := n0_
            have HO_220001 := n1_
            have HO_227000 := n2_
            have HO_227001 := n3_
            have HO_235000 := n4_
            have HO_235001 := n5_
            have HO238 := n6_
            have HO241 := n7_
            have BK204 := n8_
            have BK219 := n9_
            have BK226 := n10_
            have BK234 := n11_
            have HB := n12_
            clear n0_ n1_ n2_ n3_ n4_ n5_ n6_ n7_ n8_ n9_ n10_ n11_ n12_
            (try clear hb)
            (try clear hb2)
            (try clear hk)
            (try clear hi)
            (try clear ho0)
            (try clear ho1)
            obtain ⟨Ao59, co59, eo59⟩ := Kd.R_slice HO238.out
            (first | subst eo59 | (injection eo59 with f1_ f2_ f3_; have f4_ := f1_.symm; have f5_ := f3_.symm; clear f1_ f2_ f3_; subst f4_; subst f5_))
            obtain ⟨Ao60, co60, eo60⟩ := Kd.R_slice HO241.out
            (first | subst eo60 | (injection eo60 with f1_ f2_ f3_; have f4_ := f1_.symm; have f5_ := f3_.symm; clear f1_ f2_ f3_; subst f4_; subst f5_))
            refine hK.out _ _ ⟨(blk_cell BK226.out 0).trans rfl, (blk_cell BK226.out 1).trans rfl, (blk_cell BK204.out 0).trans rfl, (blk_cell BK204.out 1).trans rfl⟩ (fun hHeld => ?_)
            clear hK K
            refine norm_ (a' := ?_) ?_ ?_
            rotate_left
            · show Act.put _ (some 43) _ = _
              simp only [Act.put, List.setIfInBounds_toArray, List.set_cons_zero, List.set_cons_succ, i64_w, i32_w]
              rfl
            refine one_ (i := 3) (N := some 44) #[true, true, true, true, false] rfl rfl (by kernel_rfl) (by decide) (fun K hK => ?_)
            refine goes_ Try.func28 (by kernel_rfl) rfl #[.agg #[.slice Ao28 t220.length co28, .slice Ao32 t223.length co32], .agg #[.slice Ao59 t236.length co59, .slice Ao60 t239.length co60]] (by rfl) rfl rfl (by (try simp only [List.map_toArray, List.map_cons, List.map_nil]); first | done | rfl | (simp only [List.length_drop, List.length_take]; rfl)) ?_
            with_reducible refine (laws_eqArray.calls kj10 _ _ t220 _ _ t223 _ _ t236 _ _ t239 true _ ?side1 ?side2 ?side3 ?side4 ?side5 ?side6 ?side7 ?side8 A53.out).mono ?_
            (case side1 => repeat (first | exact (Kd.R_reads' HO_227000.out).2.2 | (with_reducible refine Kd.C_alloc ?_ _) | (with_reducible refine Kd.C_drewN ?_ _) | (with_reducible refine Kd.C_drew ?_)))
            (case side2 => exact (Kd.R_reads' HO_227000.out).2.1)
            (case side3 => repeat (first | exact (Kd.R_reads' HO_227001.out).2.2 | (with_reducible refine Kd.C_alloc ?_ _) | (with_reducible refine Kd.C_drewN ?_ _) | (with_reducible refine Kd.C_drew ?_)))
            (case side4 => exact (Kd.R_reads' HO_227001.out).2.1)
            (case side5 => repeat (first | exact (Kd.R_reads' HO238.out).2.2 | (with_reducible refine Kd.C_alloc ?_ _) | (with_reducible refine Kd.C_drewN ?_ _) | (with_reducible refine Kd.C_drew ?_)))
            (case side6 => exact (Kd.R_reads' HO238.out).2.1)
            (case side7 => repeat (first | exact (Kd.R_reads' HO241.out).2.2 | (with_reducible refine Kd.C_alloc ?_ _) | (with_reducible refine Kd.C_drewN ?_ _) | (with_reducible refine Kd.C_drew ?_)))
            (case side8 => exact (Kd.R_reads' HO241.out).2.1)
            rintro e w61 ⟨rfl, hb⟩
            refine ⟨_, rfl, ?_⟩
            have n0_ := Aside0.mk (Kd.R_below (by (with_reducible repeat (first | apply Kd.R_alloc | apply Kd.R_drewN | apply Kd.R_drew)); exact HO_220000.out) hb)
            have n1_ := Aside0.mk (Kd.R_below (by (with_reducible repeat (first | apply Kd.R_alloc | apply Kd.R_drewN | apply Kd.R_drew)); exact HO_220001.out) hb)
            have n2_ := Aside0.mk (Kd.R_below (by (with_reducible repeat (first | apply Kd.R_alloc | apply Kd.R_drewN | apply Kd.R_drew)); exact HO_227000.out) hb)
            have n3_ := Aside0.mk (Kd.R_below (by (with_reducible repeat (first | apply Kd.R_alloc | apply Kd.R_drewN | apply Kd.R_drew)); exact HO_227001.out) hb)
            have n4_ := Aside0.mk (Kd.R_below (by (with_reducible repeat (first | apply Kd.R_alloc | apply Kd.R_drewN | apply Kd.R_drew)); exact HO_235000.out) hb)
            have n5_ := Aside0.mk (Kd.R_below (by (with_reducible repeat (first | apply Kd.R_alloc | apply Kd.R_drewN | apply Kd.R_drew)); exact HO_235001.out) hb)
            have n6_ := Aside0.mk (Kd.R_below (by (with_reducible repeat (first | apply Kd.R_alloc | apply Kd.R_drewN | apply Kd.R_drew)); exact HO238.out) hb)
            have n7_ := Aside0.mk (Kd.R_below (by (with_reducible repeat (first | apply Kd.R_alloc | apply Kd.R_drewN | apply Kd.R_drew)); exact HO241.out) hb)
            have n8_ := Aside0.mk (blk_below (g := gb204) (o := .cells #[.slice A0_0 l0_0.length c0_0, .slice A0_1 l0_1.length c0_1] 37 (0, 0)) (by (with_reducible repeat (first | refine blk_drewN ?_ _ | refine blk_drew ?_ | refine blk_alloc ?_ _)); exact BK204.out) hb)
            have n9_ := Aside0.mk (blk_below (g := gb219) (o := .cells #[.slice Ao21 t212.length co21, .slice Ao24 t215.length co24] 26 (0, 0)) (by (with_reducible repeat (first | refine blk_drewN ?_ _ | refine blk_drew ?_ | refine blk_alloc ?_ _)); exact BK219.out) hb)
            have n10_ := Aside0.mk (blk_below (g := gb226) (o := .cells #[.slice Ao28 t220.length co28, .slice Ao32 t223.length co32] 26 (0, 0)) (by (with_reducible repeat (first | refine blk_drewN ?_ _ | refine blk_drew ?_ | refine blk_alloc ?_ _)); exact BK226.out) hb)
            have n11_ := Aside0.mk (blk_below (g := gb234) (o := .cells #[.slice Ao35 t227.length co35, .slice Ao40 t230.length co40] 26 (0, 0)) (by (with_reducible repeat (first | refine blk_drewN ?_ _ | refine blk_drew ?_ | refine blk_alloc ?_ _)); exact BK234.out) hb)
            have n12_ := Aside0.mk (below_step (by repeat (first | (with_reducible first | exact HB.out | apply below_alloc | apply pw_below_drewN | apply below_drew1 | refine below_set ?_ GE204.out | refine below_set ?_ GE219.out | refine below_set ?_ GE226.out | refine below_set ?_ GE234.out) | exact HB.out)) hb)
            clear HO_220000
            clear HO_220001
            clear HO_227000
            clear HO_227001
            clear HO_235000
            clear HO_235001
            clear HO238
            clear HO241
            clear BK204
            clear BK219
            clear BK226
            clear BK234
            clear HB
            have HO_220000 := n0_
            have HO_220001 := n1_
            have HO_227000 := n2_
            have HO_227001 := n3_
            have HO_235000 := n4_
            have HO_235001 := n5_
            have HO238 := n6_
            have HO241 := n7_
            have BK204 := n8_
            have BK219 := n9_
            have BK226 := n10_
            have BK234 := n11_
            have HB := n12_
            clear n0_ n1_ n2_ n3_ n4_ n5_ n6_ n7_ n8_ n9_ n10_ n11_ n12_
            (try clear hb)
            (try clear hb2)
            (try clear hk)
            (try clear hi)
            refine hK.out _ _ ⟨(blk_cell BK226.out 0).trans rfl, (blk_cell BK226.out 1).trans rfl, (blk_cell BK204.out 0).trans rfl, (blk_cell BK204.out 1).trans rfl⟩ (fun hHeld => ?_)
            clear hK K
            refine norm_ (a' := ?_) ?_ ?_
            rotate_left
            · show Act.put _ (some 44) _ = _
              simp only [Act.put, List.setIfInBounds_toArray, List.set_cons_zero, List.set_cons_succ, i64_w, i32_w]
              rfl
            refine pure_ (i := 4) (N := some 45) (v := ?_) (a' := ?_) #[true, true, true, true, true] rfl rfl (by kernel_rfl) (fun _ _ _ h => h) (Or.inl ⟨by rfl, ?_⟩) ?_ ?_
            rotate_left
            · intro w'
              go_simp
              with_reducible rfl
            rotate_left
            · simp only [Act.put, List.setIfInBounds_toArray, List.set_cons_zero, List.set_cons_succ, i64_w, i32_w]
              rfl
            refine done_ (by kernel_rfl) ?_
            have hnb62 := NB226_204.out
            have hnc62 := NB204_226.out
            have hnb63 := NB226_219.out
            have hnc63 := NB219_226.out
            have hnb64 := NB226_234.out
            have hnc64 := NB234_226.out
            have hcz65_0 : w61.cell? ⟨gb226, 0, none⟩ = some (.slice Ao28 t220.length co28) := (blk_cell BK226.out 0).trans rfl
            have hcz65_1 : w61.cell? ⟨gb226, 1, none⟩ = some (.slice Ao32 t223.length co32) := (blk_cell BK226.out 1).trans rfl
            have hfz65_0 := blk_frozen BK226.out 0
            have hfz65_1 := blk_frozen BK226.out 1
            go_upto_region 14 with (first | ((with_reducible refine gate_callee (f := 32) rfl ?_); refine goesL_ (some 48) rfl rfl Try.func32 (by kernel_rfl) rfl #[.agg #[.slice Ao28 t220.length co28, .slice Ao32 t223.length co32], .int .i64 1] rfl (by (try simp only [List.map_toArray, List.map_cons, List.map_nil]); first | done | rfl | (simp only [List.length_drop, List.length_take]; rfl)) ?_; (with_reducible refine (laws_markArray.calls kj10 (fun k_ => some k_ = (.slice Ao28 t220.length co28 : Value).ownBlock) (.slice Ao28 t220.length co28) t220 (fun k_ => some k_ = (.slice Ao32 t223.length co32 : Value).ownBlock) (.slice Ao32 t223.length co32) t223 1 t243 t244 t245 w _ ?side1 ?side2 ?side3 ?side4 ?side5 A55.out).mono ?_); (case side1 => repeat (first | (with_reducible first | exact HB.out | apply below_alloc | apply pw_below_drewN | apply below_drew1 | refine below_set ?_ GE204.out | refine below_set ?_ GE219.out | refine below_set ?_ GE226.out | refine below_set ?_ GE234.out) | exact HB.out)); (case side2 => exact Kd.R_tight rfl HO_227000.out); (case side3 => exact fun k_ e_ => (HO_227000.out.1 k_ e_.symm).1.1.2.2.1); (case side4 => exact Kd.R_tight rfl HO_227001.out); (case side5 => exact fun k_ e_ => (HO_227001.out.1 k_ e_.symm).1.1.2.2.1); rintro e w66 ⟨rfl, hy0, hy1, hb, hkp⟩; refine ⟨_, rfl, ?_⟩; have n0_ := Aside0.mk (Kd.R_mono (ok' := fun k_ => some k_ ≠ (.slice Ao24 t215.length co24 : Value).ownBlock ∧ some k_ ≠ (.slice Ao28 t220.length co28 : Value).ownBlock ∧ some k_ ≠ (.slice Ao32 t223.length co32 : Value).ownBlock ∧ some k_ ≠ (.slice Ao35 t227.length co35 : Value).ownBlock ∧ some k_ ≠ (.slice Ao40 t230.length co40 : Value).ownBlock ∧ some k_ ≠ (.slice Ao59 t236.length co59 : Value).ownBlock ∧ some k_ ≠ (.slice Ao60 t239.length co60 : Value).ownBlock) (Kd.R_keptB (HO_220000.out) hkp (fun k_ hk_ hs_ => Or.elim hs_ (fun e_ => (hk_.1.1.2.1) e_) (fun e_ => (hk_.1.1.2.2.1) e_))) (fun k_ hk_ => ⟨hk_.1.1.1.1, hk_.1.1.1.2.1, hk_.1.1.1.2.2.1, hk_.1.1.1.2.2.2.1, hk_.1.1.1.2.2.2.2, hk_.1.1.2, hk_.1.2⟩)); have n1_ := Aside0.mk (Kd.R_mono (ok' := fun k_ => some k_ ≠ (.slice Ao21 t212.length co21 : Value).ownBlock ∧ some k_ ≠ (.slice Ao28 t220.length co28 : Value).ownBlock ∧ some k_ ≠ (.slice Ao32 t223.length co32 : Value).ownBlock ∧ some k_ ≠ (.slice Ao35 t227.length co35 : Value).ownBlock ∧ some k_ ≠ (.slice Ao40 t230.length co40 : Value).ownBlock ∧ some k_ ≠ (.slice Ao59 t236.length co59 : Value).ownBlock ∧ some k_ ≠ (.slice Ao60 t239.length co60 : Value).ownBlock) (Kd.R_keptB (HO_220001.out) hkp (fun k_ hk_ hs_ => Or.elim hs_ (fun e_ => (hk_.1.1.2.1) e_) (fun e_ => (hk_.1.1.2.2.1) e_))) (fun k_ hk_ => ⟨hk_.1.1.1.1, hk_.1.1.1.2.1, hk_.1.1.1.2.2.1, hk_.1.1.1.2.2.2.1, hk_.1.1.1.2.2.2.2, hk_.1.1.2, hk_.1.2⟩)); have n2_ := Aside0.mk (Kd.R_reok rfl hy0 (fun k_ e_ => HO_227000.out.1 k_ e_)); have n3_ := Aside0.mk (Kd.R_reok rfl hy1 (fun k_ e_ => HO_227001.out.1 k_ e_)); have n4_ := Aside0.mk (Kd.R_mono (ok' := fun k_ => some k_ ≠ (.slice Ao21 t212.length co21 : Value).ownBlock ∧ some k_ ≠ (.slice Ao24 t215.length co24 : Value).ownBlock ∧ some k_ ≠ (.slice Ao28 t220.length co28 : Value).ownBlock ∧ some k_ ≠ (.slice Ao32 t223.length co32 : Value).ownBlock ∧ some k_ ≠ (.slice Ao40 t230.length co40 : Value).ownBlock ∧ some k_ ≠ (.slice Ao59 t236.length co59 : Value).ownBlock ∧ some k_ ≠ (.slice Ao60 t239.length co60 : Value).ownBlock) (Kd.R_keptB (HO_235000.out) hkp (fun k_ hk_ hs_ => Or.elim hs_ (fun e_ => (hk_.1.1.2.2.1) e_) (fun e_ => (hk_.1.1.2.2.2.1) e_))) (fun k_ hk_ => ⟨hk_.1.1.1.1, hk_.1.1.1.2.1, hk_.1.1.1.2.2.1, hk_.1.1.1.2.2.2.1, hk_.1.1.1.2.2.2.2, hk_.1.1.2, hk_.1.2⟩)); have n5_ := Aside0.mk (Kd.R_mono (ok' := fun k_ => some k_ ≠ (.slice Ao21 t212.length co21 : Value).ownBlock ∧ some k_ ≠ (.slice Ao24 t215.length co24 : Value).ownBlock ∧ some k_ ≠ (.slice Ao28 t220.length co28 : Value).ownBlock ∧ some k_ ≠ (.slice Ao32 t223.length co32 : Value).ownBlock ∧ some k_ ≠ (.slice Ao35 t227.length co35 : Value).ownBlock ∧ some k_ ≠ (.slice Ao59 t236.length co59 : Value).ownBlock ∧ some k_ ≠ (.slice Ao60 t239.length co60 : Value).ownBlock) (Kd.R_keptB (HO_235001.out) hkp (fun k_ hk_ hs_ => Or.elim hs_ (fun e_ => (hk_.1.1.2.2.1) e_) (fun e_ => (hk_.1.1.2.2.2.1) e_))) (fun k_ hk_ => ⟨hk_.1.1.1.1, hk_.1.1.1.2.1, hk_.1.1.1.2.2.1, hk_.1.1.1.2.2.2.1, hk_.1.1.1.2.2.2.2, hk_.1.1.2, hk_.1.2⟩)); have n6_ := Aside0.mk (blk_kept (by (with_reducible repeat (first | refine blk_drewN ?_ _ | refine blk_drew ?_ | refine blk_alloc ?_ _)); exact BK204.out) hkp (fun hs_ => Or.elim hs_ (fun e_ => (fun e_ => (Kd.R_ne HO_227000.out BK204.out (by decide)) e_) e_) (fun e_ => (fun e_ => (Kd.R_ne HO_227001.out BK204.out (by decide)) e_) e_))); have n7_ := Aside0.mk (blk_kept (by (with_reducible repeat (first | refine blk_drewN ?_ _ | refine blk_drew ?_ | refine blk_alloc ?_ _)); exact BK219.out) hkp (fun hs_ => Or.elim hs_ (fun e_ => (fun e_ => (Kd.R_ne HO_227000.out BK219.out (by decide)) e_) e_) (fun e_ => (fun e_ => (Kd.R_ne HO_227001.out BK219.out (by decide)) e_) e_))); have n8_ := Aside0.mk (blk_kept (by (with_reducible repeat (first | refine blk_drewN ?_ _ | refine blk_drew ?_ | refine blk_alloc ?_ _)); exact BK226.out) hkp (fun hs_ => Or.elim hs_ (fun e_ => (fun e_ => (Kd.R_ne HO_227000.out BK226.out (by decide)) e_) e_) (fun e_ => (fun e_ => (Kd.R_ne HO_227001.out BK226.out (by decide)) e_) e_))); have n9_ := Aside0.mk (blk_kept (by (with_reducible repeat (first | refine blk_drewN ?_ _ | refine blk_drew ?_ | refine blk_alloc ?_ _)); exact BK234.out) hkp (fun hs_ => Or.elim hs_ (fun e_ => (fun e_ => (Kd.R_ne HO_227000.out BK234.out (by decide)) e_) e_) (fun e_ => (fun e_ => (Kd.R_ne HO_227001.out BK234.out (by decide)) e_) e_))); have n10_ := Aside0.mk (Kd.R_mono (ok' := fun k_ => some k_ ≠ (.slice Ao21 t212.length co21 : Value).ownBlock ∧ some k_ ≠ (.slice Ao24 t215.length co24 : Value).ownBlock ∧ some k_ ≠ (.slice Ao28 t220.length co28 : Value).ownBlock ∧ some k_ ≠ (.slice Ao32 t223.length co32 : Value).ownBlock ∧ some k_ ≠ (.slice Ao35 t227.length co35 : Value).ownBlock ∧ some k_ ≠ (.slice Ao40 t230.length co40 : Value).ownBlock ∧ some k_ ≠ (.slice Ao60 t239.length co60 : Value).ownBlock) (Kd.R_keptB (HO238.out) hkp (fun k_ hk_ hs_ => Or.elim hs_ (fun e_ => (hk_.1.1.1.2) e_) (fun e_ => (hk_.1.1.2) e_))) (fun k_ hk_ => ⟨hk_.1.1.1.1.1.1.2, hk_.1.1.1.1.1.2, hk_.1.1.1.1.2, hk_.1.1.1.2, hk_.1.1.2, hk_.1.2, hk_.1.1.1.1.1.1.1⟩)); have n11_ := Aside0.mk (Kd.R_mono (ok' := fun k_ => some k_ ≠ (.slice Ao21 t212.length co21 : Value).ownBlock ∧ some k_ ≠ (.slice Ao24 t215.length co24 : Value).ownBlock ∧ some k_ ≠ (.slice Ao28 t220.length co28 : Value).ownBlock ∧ some k_ ≠ (.slice Ao32 t223.length co32 : Value).ownBlock ∧ some k_ ≠ (.slice Ao35 t227.length co35 : Value).ownBlock ∧ some k_ ≠ (.slice Ao40 t230.length co40 : Value).ownBlock ∧ some k_ ≠ (.slice Ao59 t236.length co59 : Value).ownBlock) (Kd.R_keptB (HO241.out) hkp (fun k_ hk_ hs_ => Or.elim hs_ (fun e_ => (hk_.1.1.1.2) e_) (fun e_ => (hk_.1.1.2) e_))) (fun k_ hk_ => ⟨hk_.1.1.1.1.1.1.2, hk_.1.1.1.1.1.2, hk_.1.1.1.1.2, hk_.1.1.1.2, hk_.1.1.2, hk_.1.2, hk_.1.1.1.1.1.1.1⟩)); have n12_ := Aside0.mk (hb); clear HO_220000; clear HO_220001; clear HO_227000; clear HO_227001; clear HO_235000; clear HO_235001; clear BK204; clear BK219; clear BK226; clear BK234; clear HO238; clear HO241; clear HB; have HO_220000 := n0_; have HO_220001 := n1_; have HO_227000 := n2_; have HO_227001 := n3_; have HO_235000 := n4_; have HO_235001 := n5_; have BK204 := n6_; have BK219 := n7_; have BK226 := n8_; have BK234 := n9_; have HO238 := n10_; have HO241 := n11_; have HB := n12_; clear n0_ n1_ n2_ n3_ n4_ n5_ n6_ n7_ n8_ n9_ n10_ n11_ n12_; (try clear hb); (try clear hkp); (try clear hy0); (try clear hy1)))
            (try simp only [Act.put, List.setIfInBounds_toArray, List.set_cons_zero, List.set_cons_succ])
            go_cut [61] (fun v61 wc => ∃ (kq : Nat) (x61_55 : Bool), v61 = .bool x61_55 ∧ Aside0 (laws_FnExactIota.j1 kq t218 x61_55 l0_0 l0_1 t212 t215 t227 t230 = some r) ∧ Aside0 (kq ≤ kj10) ∧ Aside0 (Kd.R (Kd.int .i64) 3 wc w.heap.size (fun k_ => some k_ ≠ ((.slice Ao24 t215.length co24) : Value).ownBlock ∧ some k_ ≠ ((.slice Ao28 t220.length co28) : Value).ownBlock ∧ some k_ ≠ ((.slice Ao32 t223.length co32) : Value).ownBlock ∧ some k_ ≠ ((.slice Ao35 t227.length co35) : Value).ownBlock ∧ some k_ ≠ ((.slice Ao40 t230.length co40) : Value).ownBlock) (.slice Ao21 t212.length co21) t212) ∧ Aside0 (Kd.R (Kd.int .i64) 3 wc w.heap.size (fun k_ => some k_ ≠ ((.slice Ao21 t212.length co21) : Value).ownBlock ∧ some k_ ≠ ((.slice Ao28 t220.length co28) : Value).ownBlock ∧ some k_ ≠ ((.slice Ao32 t223.length co32) : Value).ownBlock ∧ some k_ ≠ ((.slice Ao35 t227.length co35) : Value).ownBlock ∧ some k_ ≠ ((.slice Ao40 t230.length co40) : Value).ownBlock) (.slice Ao24 t215.length co24) t215) ∧ Aside0 (Kd.R (Kd.int .i64) 3 wc w.heap.size (fun k_ => some k_ ≠ ((.slice Ao21 t212.length co21) : Value).ownBlock ∧ some k_ ≠ ((.slice Ao24 t215.length co24) : Value).ownBlock ∧ some k_ ≠ ((.slice Ao32 t223.length co32) : Value).ownBlock ∧ some k_ ≠ ((.slice Ao35 t227.length co35) : Value).ownBlock ∧ some k_ ≠ ((.slice Ao40 t230.length co40) : Value).ownBlock) (.slice Ao28 t220.length co28) t244) ∧ Aside0 (Kd.R (Kd.int .i64) 3 wc w.heap.size (fun k_ => some k_ ≠ ((.slice Ao21 t212.length co21) : Value).ownBlock ∧ some k_ ≠ ((.slice Ao24 t215.length co24) : Value).ownBlock ∧ some k_ ≠ ((.slice Ao28 t220.length co28) : Value).ownBlock ∧ some k_ ≠ ((.slice Ao35 t227.length co35) : Value).ownBlock ∧ some k_ ≠ ((.slice Ao40 t230.length co40) : Value).ownBlock) (.slice Ao32 t223.length co32) t245) ∧ Aside0 (Kd.R (Kd.int .i64) 3 wc w.heap.size (fun k_ => some k_ ≠ ((.slice Ao21 t212.length co21) : Value).ownBlock ∧ some k_ ≠ ((.slice Ao24 t215.length co24) : Value).ownBlock ∧ some k_ ≠ ((.slice Ao28 t220.length co28) : Value).ownBlock ∧ some k_ ≠ ((.slice Ao32 t223.length co32) : Value).ownBlock ∧ some k_ ≠ ((.slice Ao40 t230.length co40) : Value).ownBlock) (.slice Ao35 t227.length co35) t227) ∧ Aside0 (Kd.R (Kd.int .i64) 3 wc w.heap.size (fun k_ => some k_ ≠ ((.slice Ao21 t212.length co21) : Value).ownBlock ∧ some k_ ≠ ((.slice Ao24 t215.length co24) : Value).ownBlock ∧ some k_ ≠ ((.slice Ao28 t220.length co28) : Value).ownBlock ∧ some k_ ≠ ((.slice Ao32 t223.length co32) : Value).ownBlock ∧ some k_ ≠ ((.slice Ao35 t227.length co35) : Value).ownBlock) (.slice Ao40 t230.length co40) t230) ∧ Aside0 (wc.heap[gb204]? = some (.cells #[(.slice A0_0 l0_0.length c0_0), (.slice A0_1 l0_1.length c0_1)] 37 (0, 0))) ∧ Aside0 (wc.heap[gb219]? = some (.cells #[(.slice Ao21 t212.length co21), (.slice Ao24 t215.length co24)] 26 (0, 0))) ∧ Aside0 (wc.heap[gb226]? = some (.cells #[(.slice Ao28 t220.length co28), (.slice Ao32 t223.length co32)] 26 (0, 0))) ∧ Aside0 (wc.heap[gb234]? = some (.cells #[(.slice Ao35 t227.length co35), (.slice Ao40 t230.length co40)] 26 (0, 0))) ∧ Aside0 (Below w.heap.size w wc))
            case first =>
              have H := HC56.out
              clear HC56
              by_cases c67 : t243 < 0
              · rw [if_pos c67] at H
                have c67b0 : decide (t243 < 0) = true := decide_eq_true c67
                clear c67
                (first | rw [c67b0] | (simp only [i64_w, i32_w]; rw [c67b0]) | skip)
                have hz_ : ∀ kz, laws_FnExactIota.j1 kz t218 true l0_0 l0_1 t212 t215 t227 t230 = some r → r = false := by intro kz hz; cases kz with | zero => exact absurd hz (by simp [laws_FnExactIota.j1]) | succ kz => simp only [laws_FnExactIota.j1] at hz; first | (rw [if_pos rfl] at hz; exact (Option.some.inj hz).symm) | (simp at hz; exact hz.symm) | (simp at hz; exact hz)
                exact absurd (HT.out.symm.trans (hz_ _ H)) (by decide)
              · rw [if_neg c67] at H
                have c67b0 : decide (t243 < 0) = false := decide_eq_false c67
                clear c67
                (first | rw [c67b0] | (simp only [i64_w, i32_w]; rw [c67b0]) | skip)
                replace H := Option.bind_eq_some_iff.mp H
                obtain ⟨t246, A680, H⟩ := H
                replace H : (if t246 = true then (laws_FnExactIota.j1 kj10 t218 (t233 != t218) l0_0 l0_1 t212 t215 t227 t230) else (laws_FnExactIota.j1 kj10 t218 true l0_0 l0_1 t212 t215 t227 t230)) = some r := H
                have A68 := Aside0.mk A680
                clear A680
                by_cases c69 : t246 = true
                · subst c69
                  have H1 : (laws_FnExactIota.j1 kj10 t218 (t233 != t218) l0_0 l0_1 t212 t215 t227 t230) = some r := by rw [if_pos rfl] at H; exact H
                  clear H
                  have H := H1
                  clear H1
                  have H' := Aside0.mk H
                  clear H
                  have hnb70 := NB234_204.out
                  have hnc70 := NB204_234.out
                  have hnb71 := NB234_219.out
                  have hnc71 := NB219_234.out
                  have hnb72 := NB234_226.out
                  have hnc72 := NB226_234.out
                  have hcz73_0 : w66.cell? ⟨gb234, 0, none⟩ = some (.slice Ao35 t227.length co35) := (blk_cell BK234.out 0).trans rfl
                  have hcz73_1 : w66.cell? ⟨gb234, 1, none⟩ = some (.slice Ao40 t230.length co40) := (blk_cell BK234.out 1).trans rfl
                  have hfz73_0 := blk_frozen BK234.out 0
                  have hfz73_1 := blk_frozen BK234.out 1
                  have hnb74 := NB219_204.out
                  have hnc74 := NB204_219.out
                  have hnb75 := NB219_226.out
                  have hnc75 := NB226_219.out
                  have hcz76_0 : w66.cell? ⟨gb219, 0, none⟩ = some (.slice Ao21 t212.length co21) := (blk_cell BK219.out 0).trans rfl
                  have hcz76_1 : w66.cell? ⟨gb219, 1, none⟩ = some (.slice Ao24 t215.length co24) := (blk_cell BK219.out 1).trans rfl
                  have hfz76_0 := blk_frozen BK219.out 0
                  have hfz76_1 := blk_frozen BK219.out 1
                  go_wp2_with (first | (go_at_call 28; (repeat rw [i64_w]); (with_reducible refine (laws_eqArray.calls kj10 _ _ t227 _ _ t230 _ _ t212 _ _ t215 true _ ?side1 ?side2 ?side3 ?side4 ?side5 ?side6 ?side7 ?side8 A68.out).mono ?_); (case side1 => repeat (first | exact (Kd.R_reads' HO_235000.out).2.2 | (with_reducible refine Kd.C_alloc ?_ _) | (with_reducible refine Kd.C_drewN ?_ _) | (with_reducible refine Kd.C_drew ?_))); (case side2 => exact (Kd.R_reads' HO_235000.out).2.1); (case side3 => repeat (first | exact (Kd.R_reads' HO_235001.out).2.2 | (with_reducible refine Kd.C_alloc ?_ _) | (with_reducible refine Kd.C_drewN ?_ _) | (with_reducible refine Kd.C_drew ?_))); (case side4 => exact (Kd.R_reads' HO_235001.out).2.1); (case side5 => repeat (first | exact (Kd.R_reads' HO_220000.out).2.2 | (with_reducible refine Kd.C_alloc ?_ _) | (with_reducible refine Kd.C_drewN ?_ _) | (with_reducible refine Kd.C_drew ?_))); (case side6 => exact (Kd.R_reads' HO_220000.out).2.1); (case side7 => repeat (first | exact (Kd.R_reads' HO_220001.out).2.2 | (with_reducible refine Kd.C_alloc ?_ _) | (with_reducible refine Kd.C_drewN ?_ _) | (with_reducible refine Kd.C_drew ?_))); (case side8 => exact (Kd.R_reads' HO_220001.out).2.1); rintro e w77 ⟨rfl, hb⟩; have n0_ := Aside0.mk (Kd.R_below (by (with_reducible repeat (first | apply Kd.R_alloc | apply Kd.R_drewN | apply Kd.R_drew)); exact HO_220000.out) hb); have n1_ := Aside0.mk (Kd.R_below (by (with_reducible repeat (first | apply Kd.R_alloc | apply Kd.R_drewN | apply Kd.R_drew)); exact HO_220001.out) hb); have n2_ := Aside0.mk (Kd.R_below (by (with_reducible repeat (first | apply Kd.R_alloc | apply Kd.R_drewN | apply Kd.R_drew)); exact HO_227000.out) hb); have n3_ := Aside0.mk (Kd.R_below (by (with_reducible repeat (first | apply Kd.R_alloc | apply Kd.R_drewN | apply Kd.R_drew)); exact HO_227001.out) hb); have n4_ := Aside0.mk (Kd.R_below (by (with_reducible repeat (first | apply Kd.R_alloc | apply Kd.R_drewN | apply Kd.R_drew)); exact HO_235000.out) hb); have n5_ := Aside0.mk (Kd.R_below (by (with_reducible repeat (first | apply Kd.R_alloc | apply Kd.R_drewN | apply Kd.R_drew)); exact HO_235001.out) hb); have n6_ := Aside0.mk (Kd.R_below (by (with_reducible repeat (first | apply Kd.R_alloc | apply Kd.R_drewN | apply Kd.R_drew)); exact HO238.out) hb); have n7_ := Aside0.mk (Kd.R_below (by (with_reducible repeat (first | apply Kd.R_alloc | apply Kd.R_drewN | apply Kd.R_drew)); exact HO241.out) hb); have n8_ := Aside0.mk (blk_below (g := gb204) (o := .cells #[.slice A0_0 l0_0.length c0_0, .slice A0_1 l0_1.length c0_1] 37 (0, 0)) (by (with_reducible repeat (first | refine blk_drewN ?_ _ | refine blk_drew ?_ | refine blk_alloc ?_ _)); exact BK204.out) hb); have n9_ := Aside0.mk (blk_below (g := gb219) (o := .cells #[.slice Ao21 t212.length co21, .slice Ao24 t215.length co24] 26 (0, 0)) (by (with_reducible repeat (first | refine blk_drewN ?_ _ | refine blk_drew ?_ | refine blk_alloc ?_ _)); exact BK219.out) hb); have n10_ := Aside0.mk (blk_below (g := gb226) (o := .cells #[.slice Ao28 t220.length co28, .slice Ao32 t223.length co32] 26 (0, 0)) (by (with_reducible repeat (first | refine blk_drewN ?_ _ | refine blk_drew ?_ | refine blk_alloc ?_ _)); exact BK226.out) hb); have n11_ := Aside0.mk (blk_below (g := gb234) (o := .cells #[.slice Ao35 t227.length co35, .slice Ao40 t230.length co40] 26 (0, 0)) (by (with_reducible repeat (first | refine blk_drewN ?_ _ | refine blk_drew ?_ | refine blk_alloc ?_ _)); exact BK234.out) hb); have n12_ := Aside0.mk (below_step (by repeat (first | (with_reducible first | exact HB.out | apply below_alloc | apply pw_below_drewN | apply below_drew1 | refine below_set ?_ GE204.out | refine below_set ?_ GE219.out | refine below_set ?_ GE226.out | refine below_set ?_ GE234.out) | exact HB.out)) hb); clear HO_220000; clear HO_220001; clear HO_227000; clear HO_227001; clear HO_235000; clear HO_235001; clear HO238; clear HO241; clear BK204; clear BK219; clear BK226; clear BK234; clear HB; have HO_220000 := n0_; have HO_220001 := n1_; have HO_227000 := n2_; have HO_227001 := n3_; have HO_235000 := n4_; have HO_235001 := n5_; have HO238 := n6_; have HO241 := n7_; have BK204 := n8_; have BK219 := n9_; have BK226 := n10_; have BK234 := n11_; have HB := n12_; clear n0_ n1_ n2_ n3_ n4_ n5_ n6_ n7_ n8_ n9_ n10_ n11_ n12_; (try clear hb); (try clear hb2); (try clear hk); (try clear hi)))
                  go_meet
                  case rel => exact ⟨_, ((t233 != t218)), (by first | rfl | (simp; done) | (simp [*]; done)), H', ⟨by have := HJ10.out; first | omega | exact Nat.le_refl _⟩, ⟨by (with_reducible repeat (first | apply Kd.R_alloc | apply Kd.R_drewN | apply Kd.R_drew)); exact Kd.R_mono HO_220000.out (fun _ hk => ⟨hk.1, ⟨hk.2.1, ⟨hk.2.2.1, ⟨hk.2.2.2.1, hk.2.2.2.2.1⟩⟩⟩⟩)⟩, ⟨by (with_reducible repeat (first | apply Kd.R_alloc | apply Kd.R_drewN | apply Kd.R_drew)); exact Kd.R_mono HO_220001.out (fun _ hk => ⟨hk.1, ⟨hk.2.1, ⟨hk.2.2.1, ⟨hk.2.2.2.1, hk.2.2.2.2.1⟩⟩⟩⟩)⟩, ⟨by (with_reducible repeat (first | apply Kd.R_alloc | apply Kd.R_drewN | apply Kd.R_drew)); exact Kd.R_mono HO_227000.out (fun _ hk => ⟨hk.1.1.1, ⟨hk.1.1.2.1, ⟨hk.1.1.2.2.1, ⟨hk.1.1.2.2.2.1, hk.1.1.2.2.2.2⟩⟩⟩⟩)⟩, ⟨by (with_reducible repeat (first | apply Kd.R_alloc | apply Kd.R_drewN | apply Kd.R_drew)); exact Kd.R_mono HO_227001.out (fun _ hk => ⟨hk.1.1.1, ⟨hk.1.1.2.1, ⟨hk.1.1.2.2.1, ⟨hk.1.1.2.2.2.1, hk.1.1.2.2.2.2⟩⟩⟩⟩)⟩, ⟨by (with_reducible repeat (first | apply Kd.R_alloc | apply Kd.R_drewN | apply Kd.R_drew)); exact Kd.R_mono HO_235000.out (fun _ hk => ⟨hk.1, ⟨hk.2.1, ⟨hk.2.2.1, ⟨hk.2.2.2.1, hk.2.2.2.2.1⟩⟩⟩⟩)⟩, ⟨by (with_reducible repeat (first | apply Kd.R_alloc | apply Kd.R_drewN | apply Kd.R_drew)); exact Kd.R_mono HO_235001.out (fun _ hk => ⟨hk.1, ⟨hk.2.1, ⟨hk.2.2.1, ⟨hk.2.2.2.1, hk.2.2.2.2.1⟩⟩⟩⟩)⟩, ⟨by (with_reducible repeat (first | refine blk_drewN ?_ _ | refine blk_drew ?_ | refine blk_alloc ?_ _)); exact BK204.out⟩, ⟨by (with_reducible repeat (first | refine blk_drewN ?_ _ | refine blk_drew ?_ | refine blk_alloc ?_ _)); exact BK219.out⟩, ⟨by (with_reducible repeat (first | refine blk_drewN ?_ _ | refine blk_drew ?_ | refine blk_alloc ?_ _)); exact BK226.out⟩, ⟨by (with_reducible repeat (first | refine blk_drewN ?_ _ | refine blk_drew ?_ | refine blk_alloc ?_ _)); exact BK234.out⟩, ⟨by repeat (first | (with_reducible first | exact HB.out | apply below_alloc | apply pw_below_drewN | apply below_drew1 | refine below_set ?_ GE204.out | refine below_set ?_ GE219.out | refine below_set ?_ GE226.out | refine below_set ?_ GE234.out) | exact HB.out)⟩⟩
                · replace c69 := Bool.eq_false_iff.mpr c69
                  subst c69
                  have H1 : (laws_FnExactIota.j1 kj10 t218 true l0_0 l0_1 t212 t215 t227 t230) = some r := by rw [if_neg (show ¬ (false = true) by decide)] at H; exact H
                  clear H
                  have H := H1
                  clear H1
                  have hz_ : ∀ kz, laws_FnExactIota.j1 kz t218 true l0_0 l0_1 t212 t215 t227 t230 = some r → r = false := by intro kz hz; cases kz with | zero => exact absurd hz (by simp [laws_FnExactIota.j1]) | succ kz => simp only [laws_FnExactIota.j1] at hz; first | (rw [if_pos rfl] at hz; exact (Option.some.inj hz).symm) | (simp at hz; exact hz.symm) | (simp at hz; exact hz)
                  exact absurd (HT.out.symm.trans (hz_ _ H)) (by decide)
            case rest =>
              clear HC56
              try clear c2
              try clear p2
              try clear c3
              try clear c3b0
              try clear c4
              try clear c5
              try clear c6
              try clear c7
              try clear c22
              try clear c23
              try clear c25
              try clear c28
              try clear c29
              try clear c30
              try clear c32
              try clear c36
              try clear c37
              try clear c38
              try clear c42
              try clear c43
              try clear c44
              try clear c45
              try clear c47
              try clear c48
              try clear c51
              try clear c54
              try clear c62
              try clear c63
              try clear c64
              try clear c67
              try clear c67b0
              try clear c69
              try clear c70
              try clear c71
              try clear c72
              try clear c74
              try clear c75
              try clear hcz13_0
              try clear hcz13_1
              try clear hcz15_0
              try clear hcz15_1
              try clear hcz23_0
              try clear hcz23_1
              try clear hcz25_0
              try clear hcz25_1
              try clear hcz31_0
              try clear hcz31_1
              try clear hcz39_0
              try clear hcz39_1
              try clear hcz46_0
              try clear hcz46_1
              try clear hcz49_0
              try clear hcz49_1
              try clear hcz5_0
              try clear hcz5_1
              try clear hcz65_0
              try clear hcz65_1
              try clear hcz73_0
              try clear hcz73_1
              try clear hcz76_0
              try clear hcz76_1
              try clear hfz13_0
              try clear hfz13_1
              try clear hfz15_0
              try clear hfz15_1
              try clear hfz23_0
              try clear hfz23_1
              try clear hfz25_0
              try clear hfz25_1
              try clear hfz31_0
              try clear hfz31_1
              try clear hfz39_0
              try clear hfz39_1
              try clear hfz46_0
              try clear hfz46_1
              try clear hfz49_0
              try clear hfz49_1
              try clear hfz5_0
              try clear hfz5_1
              try clear hfz65_0
              try clear hfz65_1
              try clear hfz73_0
              try clear hfz73_1
              try clear hfz76_0
              try clear hfz76_1
              try clear p2
              obtain ⟨kq, x61_55, rfl, HA, HJ55, HO_220000, HO_220001, HO_227000, HO_227001, HO_235000, HO_235001, BK204, BK219, BK226, BK234, HB⟩ := hcut
              have hl227000_55 := (Kd.R_reads' HO_227000.out).1
              rw [hl227000_55] at HO_227000
              (try simp only [hl227000_55])
              (try simp only [hl227000_55] at BK204)
              (try simp only [hl227000_55] at BK219)
              (try simp only [hl227000_55] at BK226)
              (try simp only [hl227000_55] at BK234)
              (try simp only [hl227000_55] at HO_220000)
              (try simp only [hl227000_55] at HO_220001)
              (try simp only [hl227000_55] at HO_227001)
              (try simp only [hl227000_55] at HO_235000)
              (try simp only [hl227000_55] at HO_235001)
              have hl227001_55 := (Kd.R_reads' HO_227001.out).1
              rw [hl227001_55] at HO_227001
              (try simp only [hl227001_55])
              (try simp only [hl227001_55] at BK204)
              (try simp only [hl227001_55] at BK219)
              (try simp only [hl227001_55] at BK226)
              (try simp only [hl227001_55] at BK234)
              (try simp only [hl227001_55] at HO_220000)
              (try simp only [hl227001_55] at HO_220001)
              (try simp only [hl227001_55] at HO_227000)
              (try simp only [hl227001_55] at HO_235000)
              (try simp only [hl227001_55] at HO_235001)
              cases kq with
              | zero => exact absurd HA.out (by simp [laws_FnExactIota.j1])
              | succ kj55 =>
                have H := HA.out
                clear HA
                simp only [laws_FnExactIota.j1] at H
                by_cases c78 : x61_55 = true
                · subst c78
                  have H1 : (some false) = some r := by rw [if_pos rfl] at H; exact H
                  clear H
                  have H := H1
                  clear H1
                  obtain rfl := Option.some.inj H
                  exact absurd HT.out (by decide)
                · replace c78 := Bool.eq_false_iff.mpr c78
                  subst c78
                  have H1 : ((laws_markArray.f kj55 t227 t230 1).bind fun bt247 => ((laws_heldArray.f kj55 bt247.2.1 bt247.2.2 1).bind fun t250 => (if t250 < 0 then (some false) else (if t250 = bt247.1 then ((laws_toArray.f kj55 l0_0 l0_1).bind fun bt251 => ((impl_Iota.f kj55 bt251.1 bt251.2).bind fun bt257 => ((laws_eqArray.f kj55 bt257.1 bt257.2.1 t212 t215).bind fun t265 => (if t265 = true then (laws_FnExactIota.j2 kj55 bt247.1 (bt257.2.2 != t218) bt247.2.1 bt247.2.2) else (laws_FnExactIota.j2 kj55 bt247.1 true bt247.2.1 bt247.2.2))))) else (some false))))) = some r := by rw [if_neg (show ¬ (false = true) by decide)] at H; exact H
                  clear H
                  have H := H1
                  clear H1
                  replace H := Option.bind_eq_some_iff.mp H
                  obtain ⟨⟨t247, t248, t249⟩, A790, H⟩ := H
                  replace H : ((laws_heldArray.f kj55 t248 t249 1).bind fun t250 => (if t250 < 0 then (some false) else (if t250 = t247 then ((laws_toArray.f kj55 l0_0 l0_1).bind fun bt251 => ((impl_Iota.f kj55 bt251.1 bt251.2).bind fun bt257 => ((laws_eqArray.f kj55 bt257.1 bt257.2.1 t212 t215).bind fun t265 => (if t265 = true then (laws_FnExactIota.j2 kj55 t247 (bt257.2.2 != t218) t248 t249) else (laws_FnExactIota.j2 kj55 t247 true t248 t249))))) else (some false)))) = some r := H
                  have A79 := Aside0.mk A790
                  clear A790
                  replace H := Option.bind_eq_some_iff.mp H
                  obtain ⟨t250, A800, H⟩ := H
                  replace H : (if t250 < 0 then (some false) else (if t250 = t247 then ((laws_toArray.f kj55 l0_0 l0_1).bind fun bt251 => ((impl_Iota.f kj55 bt251.1 bt251.2).bind fun bt257 => ((laws_eqArray.f kj55 bt257.1 bt257.2.1 t212 t215).bind fun t265 => (if t265 = true then (laws_FnExactIota.j2 kj55 t247 (bt257.2.2 != t218) t248 t249) else (laws_FnExactIota.j2 kj55 t247 true t248 t249))))) else (some false))) = some r := H
                  have A80 := Aside0.mk A800
                  clear A800
                  by_cases c81 : t250 < 0
                  · rw [if_pos c81] at H
                    have c81b0 : decide (t250 < 0) = true := decide_eq_true c81
                    clear c81
                    obtain rfl := Option.some.inj H
                    exact absurd HT.out (by decide)
                  · rw [if_neg c81] at H
                    have c81b0 : decide (t250 < 0) = false := decide_eq_false c81
                    clear c81
                    by_cases c82 : t250 = t247
                    · rw [if_pos c82] at H
                      have c82b0 : (t250 == t247) = true := beq_iff_eq.mpr c82
                      have c82b1 : (t250 != t247) = false := bne_eq_false_iff_eq.mpr c82
                      clear c82
                      replace H := Option.bind_eq_some_iff.mp H
                      obtain ⟨⟨t251, t254⟩, A830, H⟩ := H
                      replace H : ((impl_Iota.f kj55 t251 t254).bind fun bt257 => ((laws_eqArray.f kj55 bt257.1 bt257.2.1 t212 t215).bind fun t265 => (if t265 = true then (laws_FnExactIota.j2 kj55 t247 (bt257.2.2 != t218) t248 t249) else (laws_FnExactIota.j2 kj55 t247 true t248 t249)))) = some r := H
                      have A83 := Aside0.mk A830
                      clear A830
                      replace H := Option.bind_eq_some_iff.mp H
                      obtain ⟨⟨t257, t260, t263⟩, A840, H⟩ := H
                      replace H : ((laws_eqArray.f kj55 t257 t260 t212 t215).bind fun t265 => (if t265 = true then (laws_FnExactIota.j2 kj55 t247 (t263 != t218) t248 t249) else (laws_FnExactIota.j2 kj55 t247 true t248 t249))) = some r := H
                      have A84 := Aside0.mk A840
                      clear A840
                      have HC85 := Aside0.mk H
                      clear H
                      have hnb86 := NB234_204.out
                      have hnc86 := NB204_234.out
                      have hnb87 := NB234_219.out
                      have hnc87 := NB219_234.out
                      have hnb88 := NB234_226.out
                      have hnc88 := NB226_234.out
                      have hcz89_0 : wc.cell? ⟨gb234, 0, none⟩ = some (.slice Ao35 t227.length co35) := (blk_cell BK234.out 0).trans rfl
                      have hcz89_1 : wc.cell? ⟨gb234, 1, none⟩ = some (.slice Ao40 t230.length co40) := (blk_cell BK234.out 1).trans rfl
                      have hfz89_0 := blk_frozen BK234.out 0
                      have hfz89_1 := blk_frozen BK234.out 1
                      go_upto_region 25 with (first | ((with_reducible refine gate_callee (f := 32) rfl ?_); refine goesL_ (some 64) rfl rfl Try.func32 (by kernel_rfl) rfl #[.agg #[.slice Ao35 t227.length co35, .slice Ao40 t230.length co40], .int .i64 1] rfl (by (try simp only [List.map_toArray, List.map_cons, List.map_nil]); first | done | rfl | (simp only [List.length_drop, List.length_take]; rfl)) ?_; (with_reducible refine (laws_markArray.calls kj55 (fun k_ => some k_ = (.slice Ao35 t227.length co35 : Value).ownBlock) (.slice Ao35 t227.length co35) t227 (fun k_ => some k_ = (.slice Ao40 t230.length co40 : Value).ownBlock) (.slice Ao40 t230.length co40) t230 1 t247 t248 t249 w _ ?side1 ?side2 ?side3 ?side4 ?side5 A79.out).mono ?_); (case side1 => repeat (first | (with_reducible first | exact HB.out | apply below_alloc | apply pw_below_drewN | apply below_drew1 | refine below_set ?_ GE204.out | refine below_set ?_ GE219.out | refine below_set ?_ GE226.out | refine below_set ?_ GE234.out) | exact HB.out)); (case side2 => exact Kd.R_tight rfl HO_235000.out); (case side3 => exact fun k_ e_ => (HO_235000.out.1 k_ e_.symm).2.2.2.2); (case side4 => exact Kd.R_tight rfl HO_235001.out); (case side5 => exact fun k_ e_ => (HO_235001.out.1 k_ e_.symm).2.2.2.2); rintro e w90 ⟨rfl, hy0, hy1, hb, hkp⟩; refine ⟨_, rfl, ?_⟩; have n0_ := Aside0.mk (Kd.R_mono (ok' := fun k_ => some k_ ≠ (.slice Ao24 t215.length co24 : Value).ownBlock ∧ some k_ ≠ (.slice Ao28 t244.length co28 : Value).ownBlock ∧ some k_ ≠ (.slice Ao32 t245.length co32 : Value).ownBlock ∧ some k_ ≠ (.slice Ao35 t227.length co35 : Value).ownBlock ∧ some k_ ≠ (.slice Ao40 t230.length co40 : Value).ownBlock) (Kd.R_keptB (HO_220000.out) hkp (fun k_ hk_ hs_ => Or.elim hs_ (fun e_ => (hk_.2.2.2.1) e_) (fun e_ => (hk_.2.2.2.2) e_))) (fun k_ hk_ => ⟨hk_.1.1, hk_.1.2.1, hk_.1.2.2.1, hk_.1.2.2.2.1, hk_.1.2.2.2.2⟩)); have n1_ := Aside0.mk (Kd.R_mono (ok' := fun k_ => some k_ ≠ (.slice Ao21 t212.length co21 : Value).ownBlock ∧ some k_ ≠ (.slice Ao28 t244.length co28 : Value).ownBlock ∧ some k_ ≠ (.slice Ao32 t245.length co32 : Value).ownBlock ∧ some k_ ≠ (.slice Ao35 t227.length co35 : Value).ownBlock ∧ some k_ ≠ (.slice Ao40 t230.length co40 : Value).ownBlock) (Kd.R_keptB (HO_220001.out) hkp (fun k_ hk_ hs_ => Or.elim hs_ (fun e_ => (hk_.2.2.2.1) e_) (fun e_ => (hk_.2.2.2.2) e_))) (fun k_ hk_ => ⟨hk_.1.1, hk_.1.2.1, hk_.1.2.2.1, hk_.1.2.2.2.1, hk_.1.2.2.2.2⟩)); have n2_ := Aside0.mk (Kd.R_mono (ok' := fun k_ => some k_ ≠ (.slice Ao21 t212.length co21 : Value).ownBlock ∧ some k_ ≠ (.slice Ao24 t215.length co24 : Value).ownBlock ∧ some k_ ≠ (.slice Ao32 t245.length co32 : Value).ownBlock ∧ some k_ ≠ (.slice Ao35 t227.length co35 : Value).ownBlock ∧ some k_ ≠ (.slice Ao40 t230.length co40 : Value).ownBlock) (Kd.R_keptB (HO_227000.out) hkp (fun k_ hk_ hs_ => Or.elim hs_ (fun e_ => (hk_.2.2.2.1) e_) (fun e_ => (hk_.2.2.2.2) e_))) (fun k_ hk_ => ⟨hk_.1.1, hk_.1.2.1, hk_.1.2.2.1, hk_.1.2.2.2.1, hk_.1.2.2.2.2⟩)); have n3_ := Aside0.mk (Kd.R_mono (ok' := fun k_ => some k_ ≠ (.slice Ao21 t212.length co21 : Value).ownBlock ∧ some k_ ≠ (.slice Ao24 t215.length co24 : Value).ownBlock ∧ some k_ ≠ (.slice Ao28 t244.length co28 : Value).ownBlock ∧ some k_ ≠ (.slice Ao35 t227.length co35 : Value).ownBlock ∧ some k_ ≠ (.slice Ao40 t230.length co40 : Value).ownBlock) (Kd.R_keptB (HO_227001.out) hkp (fun k_ hk_ hs_ => Or.elim hs_ (fun e_ => (hk_.2.2.2.1) e_) (fun e_ => (hk_.2.2.2.2) e_))) (fun k_ hk_ => ⟨hk_.1.1, hk_.1.2.1, hk_.1.2.2.1, hk_.1.2.2.2.1, hk_.1.2.2.2.2⟩)); have n4_ := Aside0.mk (Kd.R_reok rfl hy0 (fun k_ e_ => HO_235000.out.1 k_ e_)); have n5_ := Aside0.mk (Kd.R_reok rfl hy1 (fun k_ e_ => HO_235001.out.1 k_ e_)); have n6_ := Aside0.mk (blk_kept (by (with_reducible repeat (first | refine blk_drewN ?_ _ | refine blk_drew ?_ | refine blk_alloc ?_ _)); exact BK204.out) hkp (fun hs_ => Or.elim hs_ (fun e_ => (fun e_ => (Kd.R_ne HO_235000.out BK204.out (by decide)) e_) e_) (fun e_ => (fun e_ => (Kd.R_ne HO_235001.out BK204.out (by decide)) e_) e_))); have n7_ := Aside0.mk (blk_kept (by (with_reducible repeat (first | refine blk_drewN ?_ _ | refine blk_drew ?_ | refine blk_alloc ?_ _)); exact BK219.out) hkp (fun hs_ => Or.elim hs_ (fun e_ => (fun e_ => (Kd.R_ne HO_235000.out BK219.out (by decide)) e_) e_) (fun e_ => (fun e_ => (Kd.R_ne HO_235001.out BK219.out (by decide)) e_) e_))); have n8_ := Aside0.mk (blk_kept (by (with_reducible repeat (first | refine blk_drewN ?_ _ | refine blk_drew ?_ | refine blk_alloc ?_ _)); exact BK226.out) hkp (fun hs_ => Or.elim hs_ (fun e_ => (fun e_ => (Kd.R_ne HO_235000.out BK226.out (by decide)) e_) e_) (fun e_ => (fun e_ => (Kd.R_ne HO_235001.out BK226.out (by decide)) e_) e_))); have n9_ := Aside0.mk (blk_kept (by (with_reducible repeat (first | refine blk_drewN ?_ _ | refine blk_drew ?_ | refine blk_alloc ?_ _)); exact BK234.out) hkp (fun hs_ => Or.elim hs_ (fun e_ => (fun e_ => (Kd.R_ne HO_235000.out BK234.out (by decide)) e_) e_) (fun e_ => (fun e_ => (Kd.R_ne HO_235001.out BK234.out (by decide)) e_) e_))); have n10_ := Aside0.mk (hb); clear HO_220000; clear HO_220001; clear HO_227000; clear HO_227001; clear HO_235000; clear HO_235001; clear BK204; clear BK219; clear BK226; clear BK234; clear HB; have HO_220000 := n0_; have HO_220001 := n1_; have HO_227000 := n2_; have HO_227001 := n3_; have HO_235000 := n4_; have HO_235001 := n5_; have BK204 := n6_; have BK219 := n7_; have BK226 := n8_; have BK234 := n9_; have HB := n10_; clear n0_ n1_ n2_ n3_ n4_ n5_ n6_ n7_ n8_ n9_ n10_; (try clear hb); (try clear hkp); (try clear hy0); (try clear hy1); have hcz91_0 : w90.cell? ⟨gb234, 0, none⟩ = some (.slice Ao35 t227.length co35) := (blk_cell BK234.out 0).trans rfl; have hcz91_1 : w90.cell? ⟨gb234, 1, none⟩ = some (.slice Ao40 t230.length co40) := (blk_cell BK234.out 1).trans rfl; have hfz91_0 := blk_frozen BK234.out 0; have hfz91_1 := blk_frozen BK234.out 1) | ((with_reducible refine gate_callee (f := 33) rfl ?_); refine goesL_ (some 67) rfl rfl Try.func33 (by kernel_rfl) rfl #[.agg #[.slice Ao35 t248.length co35, .slice Ao40 t249.length co40], .int .i64 1] rfl (by (try simp only [List.map_toArray, List.map_cons, List.map_nil]); first | done | (rw [show t248.length = t227.length from (Kd.R_reads' HO_235000.out).1.symm, show t249.length = t230.length from (Kd.R_reads' HO_235001.out).1.symm] <;> rfl) | rfl | (simp only [List.length_drop, List.length_take]; rfl)) ?_; (with_reducible refine (laws_heldArray.calls kj55 _ _ t248 _ _ t249 1 t250 _ ?side1 ?side2 ?side3 ?side4 A80.out).mono ?_); (case side1 => repeat (first | exact (Kd.R_reads' HO_235000.out).2.2 | (with_reducible refine Kd.C_alloc ?_ _) | (with_reducible refine Kd.C_drewN ?_ _) | (with_reducible refine Kd.C_drew ?_))); (case side2 => rw [show t248.length = t227.length from (Kd.R_reads' HO_235000.out).1.symm]; exact (Kd.R_reads' HO_235000.out).2.1); (case side3 => repeat (first | exact (Kd.R_reads' HO_235001.out).2.2 | (with_reducible refine Kd.C_alloc ?_ _) | (with_reducible refine Kd.C_drewN ?_ _) | (with_reducible refine Kd.C_drew ?_))); (case side4 => rw [show t249.length = t230.length from (Kd.R_reads' HO_235001.out).1.symm]; exact (Kd.R_reads' HO_235001.out).2.1); rintro e w92 ⟨rfl, hb⟩; refine ⟨_, rfl, ?_⟩; have n0_ := Aside0.mk (Kd.R_below (by (with_reducible repeat (first | apply Kd.R_alloc | apply Kd.R_drewN | apply Kd.R_drew)); exact HO_220000.out) hb); have n1_ := Aside0.mk (Kd.R_below (by (with_reducible repeat (first | apply Kd.R_alloc | apply Kd.R_drewN | apply Kd.R_drew)); exact HO_220001.out) hb); have n2_ := Aside0.mk (Kd.R_below (by (with_reducible repeat (first | apply Kd.R_alloc | apply Kd.R_drewN | apply Kd.R_drew)); exact HO_227000.out) hb); have n3_ := Aside0.mk (Kd.R_below (by (with_reducible repeat (first | apply Kd.R_alloc | apply Kd.R_drewN | apply Kd.R_drew)); exact HO_227001.out) hb); have n4_ := Aside0.mk (Kd.R_below (by (with_reducible repeat (first | apply Kd.R_alloc | apply Kd.R_drewN | apply Kd.R_drew)); exact HO_235000.out) hb); have n5_ := Aside0.mk (Kd.R_below (by (with_reducible repeat (first | apply Kd.R_alloc | apply Kd.R_drewN | apply Kd.R_drew)); exact HO_235001.out) hb); have n6_ := Aside0.mk (blk_below (g := gb204) (o := .cells #[.slice A0_0 l0_0.length c0_0, .slice A0_1 l0_1.length c0_1] 37 (0, 0)) (by (with_reducible repeat (first | refine blk_drewN ?_ _ | refine blk_drew ?_ | refine blk_alloc ?_ _)); exact BK204.out) hb); have n7_ := Aside0.mk (blk_below (g := gb219) (o := .cells #[.slice Ao21 t212.length co21, .slice Ao24 t215.length co24] 26 (0, 0)) (by (with_reducible repeat (first | refine blk_drewN ?_ _ | refine blk_drew ?_ | refine blk_alloc ?_ _)); exact BK219.out) hb); have n8_ := Aside0.mk (blk_below (g := gb226) (o := .cells #[.slice Ao28 t244.length co28, .slice Ao32 t245.length co32] 26 (0, 0)) (by (with_reducible repeat (first | refine blk_drewN ?_ _ | refine blk_drew ?_ | refine blk_alloc ?_ _)); exact BK226.out) hb); have n9_ := Aside0.mk (blk_below (g := gb234) (o := .cells #[.slice Ao35 t227.length co35, .slice Ao40 t230.length co40] 26 (0, 0)) (by (with_reducible repeat (first | refine blk_drewN ?_ _ | refine blk_drew ?_ | refine blk_alloc ?_ _)); exact BK234.out) hb); have n10_ := Aside0.mk (below_step (by repeat (first | (with_reducible first | exact HB.out | apply below_alloc | apply pw_below_drewN | apply below_drew1 | refine below_set ?_ GE204.out | refine below_set ?_ GE219.out | refine below_set ?_ GE226.out | refine below_set ?_ GE234.out) | exact HB.out)) hb); clear HO_220000; clear HO_220001; clear HO_227000; clear HO_227001; clear HO_235000; clear HO_235001; clear BK204; clear BK219; clear BK226; clear BK234; clear HB; have HO_220000 := n0_; have HO_220001 := n1_; have HO_227000 := n2_; have HO_227001 := n3_; have HO_235000 := n4_; have HO_235001 := n5_; have BK204 := n6_; have BK219 := n7_; have BK226 := n8_; have BK234 := n9_; have HB := n10_; clear n0_ n1_ n2_ n3_ n4_ n5_ n6_ n7_ n8_ n9_ n10_; (try clear hb); (try clear hb2); (try clear hk); (try clear hi); have hnb93 := NB204_219.out; have hnc93 := NB219_204.out; have hnb94 := NB204_226.out; have hnc94 := NB226_204.out; have hcz95_0 : w92.cell? ⟨gb204, 0, none⟩ = some (.slice A0_0 l0_0.length c0_0) := (blk_cell BK204.out 0).trans rfl; have hcz95_1 : w92.cell? ⟨gb204, 1, none⟩ = some (.slice A0_1 l0_1.length c0_1) := (blk_cell BK204.out 1).trans rfl; have hfz95_0 := blk_frozen BK204.out 0; have hfz95_1 := blk_frozen BK204.out 1) | ((with_reducible refine gate_callee (f := 25) rfl ?_); refine goesL_ (some 75) rfl rfl Try.func25 (by kernel_rfl) rfl #[.agg #[.slice A0_0 l0_0.length c0_0, .slice A0_1 l0_1.length c0_1]] rfl (by (try simp only [List.map_toArray, List.map_cons, List.map_nil]); first | done | rfl | (simp only [List.length_drop, List.length_take]; rfl)) ?_; (with_reducible refine (laws_toArray.calls kj55 _ _ l0_0 _ _ l0_1 t251 t254 _ ?side1 ?side2 ?side3 ?side4 A83.out).mono ?_); (case side1 => repeat (first | exact (Kd.C_below HR0_0.out HB.out) | (with_reducible refine Kd.C_alloc ?_ _) | (with_reducible refine Kd.C_drewN ?_ _) | (with_reducible refine Kd.C_drew ?_))); (case side2 => exact HC0_0.out); (case side3 => repeat (first | exact (Kd.C_below HR0_1.out HB.out) | (with_reducible refine Kd.C_alloc ?_ _) | (with_reducible refine Kd.C_drewN ?_ _) | (with_reducible refine Kd.C_drew ?_))); (case side4 => exact HC0_1.out); rintro e w96 ⟨v252, v255, rfl, ho0, ho1, hb⟩; refine ⟨_, rfl, ?_⟩; have n0_ := Aside0.mk (Kd.R_mono (Kd.R_told (Kd.R_told (Kd.R_old (by (with_reducible repeat (first | apply Kd.R_alloc | apply Kd.R_drewN | apply Kd.R_drew)); exact HO_220000.out) hb) (Kd.R_base ho0)) (Kd.R_base ho1)) (fun _ h_ => h_.1)); have n1_ := Aside0.mk (Kd.R_mono (Kd.R_told (Kd.R_told (Kd.R_old (by (with_reducible repeat (first | apply Kd.R_alloc | apply Kd.R_drewN | apply Kd.R_drew)); exact HO_220001.out) hb) (Kd.R_base ho0)) (Kd.R_base ho1)) (fun _ h_ => h_.1)); have n2_ := Aside0.mk (Kd.R_mono (Kd.R_told (Kd.R_told (Kd.R_old (by (with_reducible repeat (first | apply Kd.R_alloc | apply Kd.R_drewN | apply Kd.R_drew)); exact HO_227000.out) hb) (Kd.R_base ho0)) (Kd.R_base ho1)) (fun _ h_ => h_.1)); have n3_ := Aside0.mk (Kd.R_mono (Kd.R_told (Kd.R_told (Kd.R_old (by (with_reducible repeat (first | apply Kd.R_alloc | apply Kd.R_drewN | apply Kd.R_drew)); exact HO_227001.out) hb) (Kd.R_base ho0)) (Kd.R_base ho1)) (fun _ h_ => h_.1)); have n4_ := Aside0.mk (Kd.R_mono (Kd.R_told (Kd.R_told (Kd.R_old (by (with_reducible repeat (first | apply Kd.R_alloc | apply Kd.R_drewN | apply Kd.R_drew)); exact HO_235000.out) hb) (Kd.R_base ho0)) (Kd.R_base ho1)) (fun _ h_ => h_.1)); have n5_ := Aside0.mk (Kd.R_mono (Kd.R_told (Kd.R_told (Kd.R_old (by (with_reducible repeat (first | apply Kd.R_alloc | apply Kd.R_drewN | apply Kd.R_drew)); exact HO_235001.out) hb) (Kd.R_base ho0)) (Kd.R_base ho1)) (fun _ h_ => h_.1)); have n6_ := Aside0.mk (Kd.R_lower (Kd.R_new' (Kd.R_new' (Kd.R_new' (Kd.R_new' (Kd.R_new' (Kd.R_new' ho0 (Kd.R_lt (by (with_reducible repeat (first | apply Kd.R_alloc | apply Kd.R_drewN | apply Kd.R_drew)); exact HO_220000.out))) (Kd.R_lt (by (with_reducible repeat (first | apply Kd.R_alloc | apply Kd.R_drewN | apply Kd.R_drew)); exact HO_220001.out))) (Kd.R_lt (by (with_reducible repeat (first | apply Kd.R_alloc | apply Kd.R_drewN | apply Kd.R_drew)); exact HO_227000.out))) (Kd.R_lt (by (with_reducible repeat (first | apply Kd.R_alloc | apply Kd.R_drewN | apply Kd.R_drew)); exact HO_227001.out))) (Kd.R_lt (by (with_reducible repeat (first | apply Kd.R_alloc | apply Kd.R_drewN | apply Kd.R_drew)); exact HO_235000.out))) (Kd.R_lt (by (with_reducible repeat (first | apply Kd.R_alloc | apply Kd.R_drewN | apply Kd.R_drew)); exact HO_235001.out))) (below_size (by repeat (first | (with_reducible first | exact HB.out | apply below_alloc | apply pw_below_drewN | apply below_drew1 | refine below_set ?_ GE204.out | refine below_set ?_ GE219.out | refine below_set ?_ GE226.out | refine below_set ?_ GE234.out) | exact HB.out)))); have n7_ := Aside0.mk (Kd.R_lower (Kd.R_new' (Kd.R_new' (Kd.R_new' (Kd.R_new' (Kd.R_new' (Kd.R_new' ho1 (Kd.R_lt (by (with_reducible repeat (first | apply Kd.R_alloc | apply Kd.R_drewN | apply Kd.R_drew)); exact HO_220000.out))) (Kd.R_lt (by (with_reducible repeat (first | apply Kd.R_alloc | apply Kd.R_drewN | apply Kd.R_drew)); exact HO_220001.out))) (Kd.R_lt (by (with_reducible repeat (first | apply Kd.R_alloc | apply Kd.R_drewN | apply Kd.R_drew)); exact HO_227000.out))) (Kd.R_lt (by (with_reducible repeat (first | apply Kd.R_alloc | apply Kd.R_drewN | apply Kd.R_drew)); exact HO_227001.out))) (Kd.R_lt (by (with_reducible repeat (first | apply Kd.R_alloc | apply Kd.R_drewN | apply Kd.R_drew)); exact HO_235000.out))) (Kd.R_lt (by (with_reducible repeat (first | apply Kd.R_alloc | apply Kd.R_drewN | apply Kd.R_drew)); exact HO_235001.out))) (below_size (by repeat (first | (with_reducible first | exact HB.out | apply below_alloc | apply pw_below_drewN | apply below_drew1 | refine below_set ?_ GE204.out | refine below_set ?_ GE219.out | refine below_set ?_ GE226.out | refine below_set ?_ GE234.out) | exact HB.out)))); have n8_ := Aside0.mk (blk_below (g := gb204) (o := .cells #[.slice A0_0 l0_0.length c0_0, .slice A0_1 l0_1.length c0_1] 37 (0, 0)) (by (with_reducible repeat (first | refine blk_drewN ?_ _ | refine blk_drew ?_ | refine blk_alloc ?_ _)); exact BK204.out) hb); have n9_ := Aside0.mk (blk_below (g := gb219) (o := .cells #[.slice Ao21 t212.length co21, .slice Ao24 t215.length co24] 26 (0, 0)) (by (with_reducible repeat (first | refine blk_drewN ?_ _ | refine blk_drew ?_ | refine blk_alloc ?_ _)); exact BK219.out) hb); have n10_ := Aside0.mk (blk_below (g := gb226) (o := .cells #[.slice Ao28 t244.length co28, .slice Ao32 t245.length co32] 26 (0, 0)) (by (with_reducible repeat (first | refine blk_drewN ?_ _ | refine blk_drew ?_ | refine blk_alloc ?_ _)); exact BK226.out) hb); have n11_ := Aside0.mk (blk_below (g := gb234) (o := .cells #[.slice Ao35 t227.length co35, .slice Ao40 t230.length co40] 26 (0, 0)) (by (with_reducible repeat (first | refine blk_drewN ?_ _ | refine blk_drew ?_ | refine blk_alloc ?_ _)); exact BK234.out) hb); have n12_ := Aside0.mk (below_step (by repeat (first | (with_reducible first | exact HB.out | apply below_alloc | apply pw_below_drewN | apply below_drew1 | refine below_set ?_ GE204.out | refine below_set ?_ GE219.out | refine below_set ?_ GE226.out | refine below_set ?_ GE234.out) | exact HB.out)) hb); clear HO_220000; clear HO_220001; clear HO_227000; clear HO_227001; clear HO_235000; clear HO_235001; clear BK204; clear BK219; clear BK226; clear BK234; clear HB; have HO_220000 := n0_; have HO_220001 := n1_; have HO_227000 := n2_; have HO_227001 := n3_; have HO_235000 := n4_; have HO_235001 := n5_; have HO253 := n6_; have HO256 := n7_; have BK204 := n8_; have BK219 := n9_; have BK226 := n10_; have BK234 := n11_; have HB := n12_; clear n0_ n1_ n2_ n3_ n4_ n5_ n6_ n7_ n8_ n9_ n10_ n11_ n12_; (try clear hb); (try clear hb2); (try clear hk); (try clear hi); (try clear ho0); (try clear ho1); obtain ⟨Ao97, co97, eo97⟩ := Kd.R_slice HO253.out; subst eo97; obtain ⟨Ao98, co98, eo98⟩ := Kd.R_slice HO256.out; subst eo98) | ((with_reducible refine gate_callee (f := 37) rfl ?_); refine goesL_ (some 76) rfl rfl Try.func37 (by kernel_rfl) rfl #[.agg #[.slice Ao97 t251.length co97, .slice Ao98 t254.length co98]] rfl (by (try simp only [List.map_toArray, List.map_cons, List.map_nil]); first | done | rfl | (simp only [List.length_drop, List.length_take]; rfl)) ?_; (with_reducible refine (impl_Iota.calls kj55 _ _ t251 _ _ t254 t257 t260 t263 _ ?side1 ?side2 ?side3 ?side4 A84.out).mono ?_); (case side1 => repeat (first | exact (Kd.R_reads' HO253.out).2.2 | (with_reducible refine Kd.C_alloc ?_ _) | (with_reducible refine Kd.C_drewN ?_ _) | (with_reducible refine Kd.C_drew ?_))); (case side2 => exact (Kd.R_reads' HO253.out).2.1); (case side3 => repeat (first | exact (Kd.R_reads' HO256.out).2.2 | (with_reducible refine Kd.C_alloc ?_ _) | (with_reducible refine Kd.C_drewN ?_ _) | (with_reducible refine Kd.C_drew ?_))); (case side4 => exact (Kd.R_reads' HO256.out).2.1); rintro e w99 ⟨v258, v261, rfl, ho0, ho1, hb⟩; refine ⟨_, rfl, ?_⟩; have n0_ := Aside0.mk (Kd.R_mono (Kd.R_told (Kd.R_told (Kd.R_old (by (with_reducible repeat (first | apply Kd.R_alloc | apply Kd.R_drewN | apply Kd.R_drew)); exact HO_220000.out) hb) (Kd.R_base ho0)) (Kd.R_base ho1)) (fun _ h_ => h_.1)); have n1_ := Aside0.mk (Kd.R_mono (Kd.R_told (Kd.R_told (Kd.R_old (by (with_reducible repeat (first | apply Kd.R_alloc | apply Kd.R_drewN | apply Kd.R_drew)); exact HO_220001.out) hb) (Kd.R_base ho0)) (Kd.R_base ho1)) (fun _ h_ => h_.1)); have n2_ := Aside0.mk (Kd.R_mono (Kd.R_told (Kd.R_told (Kd.R_old (by (with_reducible repeat (first | apply Kd.R_alloc | apply Kd.R_drewN | apply Kd.R_drew)); exact HO_227000.out) hb) (Kd.R_base ho0)) (Kd.R_base ho1)) (fun _ h_ => h_.1)); have n3_ := Aside0.mk (Kd.R_mono (Kd.R_told (Kd.R_told (Kd.R_old (by (with_reducible repeat (first | apply Kd.R_alloc | apply Kd.R_drewN | apply Kd.R_drew)); exact HO_227001.out) hb) (Kd.R_base ho0)) (Kd.R_base ho1)) (fun _ h_ => h_.1)); have n4_ := Aside0.mk (Kd.R_mono (Kd.R_told (Kd.R_told (Kd.R_old (by (with_reducible repeat (first | apply Kd.R_alloc | apply Kd.R_drewN | apply Kd.R_drew)); exact HO_235000.out) hb) (Kd.R_base ho0)) (Kd.R_base ho1)) (fun _ h_ => h_.1)); have n5_ := Aside0.mk (Kd.R_mono (Kd.R_told (Kd.R_told (Kd.R_old (by (with_reducible repeat (first | apply Kd.R_alloc | apply Kd.R_drewN | apply Kd.R_drew)); exact HO_235001.out) hb) (Kd.R_base ho0)) (Kd.R_base ho1)) (fun _ h_ => h_.1)); have n6_ := Aside0.mk (Kd.R_mono (Kd.R_told (Kd.R_told (Kd.R_old (by (with_reducible repeat (first | apply Kd.R_alloc | apply Kd.R_drewN | apply Kd.R_drew)); exact HO253.out) hb) (Kd.R_base ho0)) (Kd.R_base ho1)) (fun _ h_ => h_.1)); have n7_ := Aside0.mk (Kd.R_mono (Kd.R_told (Kd.R_told (Kd.R_old (by (with_reducible repeat (first | apply Kd.R_alloc | apply Kd.R_drewN | apply Kd.R_drew)); exact HO256.out) hb) (Kd.R_base ho0)) (Kd.R_base ho1)) (fun _ h_ => h_.1)); have n8_ := Aside0.mk (Kd.R_lower (Kd.R_new' (Kd.R_new' (Kd.R_new' (Kd.R_new' (Kd.R_new' (Kd.R_new' (Kd.R_new' (Kd.R_new' ho0 (Kd.R_lt (by (with_reducible repeat (first | apply Kd.R_alloc | apply Kd.R_drewN | apply Kd.R_drew)); exact HO_220000.out))) (Kd.R_lt (by (with_reducible repeat (first | apply Kd.R_alloc | apply Kd.R_drewN | apply Kd.R_drew)); exact HO_220001.out))) (Kd.R_lt (by (with_reducible repeat (first | apply Kd.R_alloc | apply Kd.R_drewN | apply Kd.R_drew)); exact HO_227000.out))) (Kd.R_lt (by (with_reducible repeat (first | apply Kd.R_alloc | apply Kd.R_drewN | apply Kd.R_drew)); exact HO_227001.out))) (Kd.R_lt (by (with_reducible repeat (first | apply Kd.R_alloc | apply Kd.R_drewN | apply Kd.R_drew)); exact HO_235000.out))) (Kd.R_lt (by (with_reducible repeat (first | apply Kd.R_alloc | apply Kd.R_drewN | apply Kd.R_drew)); exact HO_235001.out))) (Kd.R_lt (by (with_reducible repeat (first | apply Kd.R_alloc | apply Kd.R_drewN | apply Kd.R_drew)); exact HO253.out))) (Kd.R_lt (by (with_reducible repeat (first | apply Kd.R_alloc | apply Kd.R_drewN | apply Kd.R_drew)); exact HO256.out))) (below_size (by repeat (first | (with_reducible first | exact HB.out | apply below_alloc | apply pw_below_drewN | apply below_drew1 | refine below_set ?_ GE204.out | refine below_set ?_ GE219.out | refine below_set ?_ GE226.out | refine below_set ?_ GE234.out) | exact HB.out)))); have n9_ := Aside0.mk (Kd.R_lower (Kd.R_new' (Kd.R_new' (Kd.R_new' (Kd.R_new' (Kd.R_new' (Kd.R_new' (Kd.R_new' (Kd.R_new' ho1 (Kd.R_lt (by (with_reducible repeat (first | apply Kd.R_alloc | apply Kd.R_drewN | apply Kd.R_drew)); exact HO_220000.out))) (Kd.R_lt (by (with_reducible repeat (first | apply Kd.R_alloc | apply Kd.R_drewN | apply Kd.R_drew)); exact HO_220001.out))) (Kd.R_lt (by (with_reducible repeat (first | apply Kd.R_alloc | apply Kd.R_drewN | apply Kd.R_drew)); exact HO_227000.out))) (Kd.R_lt (by (with_reducible repeat (first | apply Kd.R_alloc | apply Kd.R_drewN | apply Kd.R_drew)); exact HO_227001.out))) (Kd.R_lt (by (with_reducible repeat (first | apply Kd.R_alloc | apply Kd.R_drewN | apply Kd.R_drew)); exact HO_235000.out))) (Kd.R_lt (by (with_reducible repeat (first | apply Kd.R_alloc | apply Kd.R_drewN | apply Kd.R_drew)); exact HO_235001.out))) (Kd.R_lt (by (with_reducible repeat (first | apply Kd.R_alloc | apply Kd.R_drewN | apply Kd.R_drew)); exact HO253.out))) (Kd.R_lt (by (with_reducible repeat (first | apply Kd.R_alloc | apply Kd.R_drewN | apply Kd.R_drew)); exact HO256.out))) (below_size (by repeat (first | (with_reducible first | exact HB.out | apply below_alloc | apply pw_below_drewN | apply below_drew1 | refine below_set ?_ GE204.out | refine below_set ?_ GE219.out | refine below_set ?_ GE226.out | refine below_set ?_ GE234.out) | exact HB.out)))); have n10_ := Aside0.mk (blk_below (g := gb204) (o := .cells #[.slice A0_0 l0_0.length c0_0, .slice A0_1 l0_1.length c0_1] 37 (0, 0)) (by (with_reducible repeat (first | refine blk_drewN ?_ _ | refine blk_drew ?_ | refine blk_alloc ?_ _)); exact BK204.out) hb); have n11_ := Aside0.mk (blk_below (g := gb219) (o := .cells #[.slice Ao21 t212.length co21, .slice Ao24 t215.length co24] 26 (0, 0)) (by (with_reducible repeat (first | refine blk_drewN ?_ _ | refine blk_drew ?_ | refine blk_alloc ?_ _)); exact BK219.out) hb); have n12_ := Aside0.mk (blk_below (g := gb226) (o := .cells #[.slice Ao28 t244.length co28, .slice Ao32 t245.length co32] 26 (0, 0)) (by (with_reducible repeat (first | refine blk_drewN ?_ _ | refine blk_drew ?_ | refine blk_alloc ?_ _)); exact BK226.out) hb); have n13_ := Aside0.mk (blk_below (g := gb234) (o := .cells #[.slice Ao35 t227.length co35, .slice Ao40 t230.length co40] 26 (0, 0)) (by (with_reducible repeat (first | refine blk_drewN ?_ _ | refine blk_drew ?_ | refine blk_alloc ?_ _)); exact BK234.out) hb); have n14_ := Aside0.mk (below_step (by repeat (first | (with_reducible first | exact HB.out | apply below_alloc | apply pw_below_drewN | apply below_drew1 | refine below_set ?_ GE204.out | refine below_set ?_ GE219.out | refine below_set ?_ GE226.out | refine below_set ?_ GE234.out) | exact HB.out)) hb); clear HO_220000; clear HO_220001; clear HO_227000; clear HO_227001; clear HO_235000; clear HO_235001; clear HO253; clear HO256; clear BK204; clear BK219; clear BK226; clear BK234; clear HB; have HO_220000 := n0_; have HO_220001 := n1_; have HO_227000 := n2_; have HO_227001 := n3_; have HO_235000 := n4_; have HO_235001 := n5_; have HO253 := n6_; have HO256 := n7_; have HO259 := n8_; have HO262 := n9_; have BK204 := n10_; have BK219 := n11_; have BK226 := n12_; have BK234 := n13_; have HB := n14_; clear n0_ n1_ n2_ n3_ n4_ n5_ n6_ n7_ n8_ n9_ n10_ n11_ n12_ n13_ n14_; (try clear hb); (try clear hb2); (try clear hk); (try clear hi); (try clear ho0); (try clear ho1)) | ((with_reducible refine gate_dst (N := 12) rfl ?_); refine box_event ?hg (N := 12) ?hd (cs := #[.slice none 0 0, .slice none 0 0]) (t := 26) ?hr ?_; (case hd => rfl); (case hg => rfl); (case hr => first | (go_simp; done) | (go_simp; rfl)); intro gb264 hg w100 hbox hb; have n0_ := Aside0.mk (Kd.R_below (by (with_reducible repeat (first | apply Kd.R_alloc | apply Kd.R_drewN | apply Kd.R_drew)); exact HO_220000.out) hb); have n1_ := Aside0.mk (Kd.R_below (by (with_reducible repeat (first | apply Kd.R_alloc | apply Kd.R_drewN | apply Kd.R_drew)); exact HO_220001.out) hb); have n2_ := Aside0.mk (Kd.R_below (by (with_reducible repeat (first | apply Kd.R_alloc | apply Kd.R_drewN | apply Kd.R_drew)); exact HO_227000.out) hb); have n3_ := Aside0.mk (Kd.R_below (by (with_reducible repeat (first | apply Kd.R_alloc | apply Kd.R_drewN | apply Kd.R_drew)); exact HO_227001.out) hb); have n4_ := Aside0.mk (Kd.R_below (by (with_reducible repeat (first | apply Kd.R_alloc | apply Kd.R_drewN | apply Kd.R_drew)); exact HO_235000.out) hb); have n5_ := Aside0.mk (Kd.R_below (by (with_reducible repeat (first | apply Kd.R_alloc | apply Kd.R_drewN | apply Kd.R_drew)); exact HO_235001.out) hb); have n6_ := Aside0.mk (Kd.R_below (by (with_reducible repeat (first | apply Kd.R_alloc | apply Kd.R_drewN | apply Kd.R_drew)); exact HO253.out) hb); have n7_ := Aside0.mk (Kd.R_below (by (with_reducible repeat (first | apply Kd.R_alloc | apply Kd.R_drewN | apply Kd.R_drew)); exact HO256.out) hb); have n8_ := Aside0.mk (Kd.R_below (by (with_reducible repeat (first | apply Kd.R_alloc | apply Kd.R_drewN | apply Kd.R_drew)); exact HO259.out) hb); have n9_ := Aside0.mk (Kd.R_below (by (with_reducible repeat (first | apply Kd.R_alloc | apply Kd.R_drewN | apply Kd.R_drew)); exact HO262.out) hb); have n10_ := Aside0.mk (blk_below (g := gb204) (o := .cells #[.slice A0_0 l0_0.length c0_0, .slice A0_1 l0_1.length c0_1] 37 (0, 0)) (by (with_reducible repeat (first | refine blk_drewN ?_ _ | refine blk_drew ?_ | refine blk_alloc ?_ _)); exact BK204.out) hb); have n11_ := Aside0.mk (blk_below (g := gb219) (o := .cells #[.slice Ao21 t212.length co21, .slice Ao24 t215.length co24] 26 (0, 0)) (by (with_reducible repeat (first | refine blk_drewN ?_ _ | refine blk_drew ?_ | refine blk_alloc ?_ _)); exact BK219.out) hb); have n12_ := Aside0.mk (blk_below (g := gb226) (o := .cells #[.slice Ao28 t244.length co28, .slice Ao32 t245.length co32] 26 (0, 0)) (by (with_reducible repeat (first | refine blk_drewN ?_ _ | refine blk_drew ?_ | refine blk_alloc ?_ _)); exact BK226.out) hb); have n13_ := Aside0.mk (blk_below (g := gb234) (o := .cells #[.slice Ao35 t227.length co35, .slice Ao40 t230.length co40] 26 (0, 0)) (by (with_reducible repeat (first | refine blk_drewN ?_ _ | refine blk_drew ?_ | refine blk_alloc ?_ _)); exact BK234.out) hb); have n14_ := Aside0.mk (below_step (by repeat (first | (with_reducible first | exact HB.out | apply below_alloc | apply pw_below_drewN | apply below_drew1 | refine below_set ?_ GE204.out | refine below_set ?_ GE219.out | refine below_set ?_ GE226.out | refine below_set ?_ GE234.out) | exact HB.out)) hb); have n15_ := Aside0.mk (hbox); have n16_ := Aside0.mk ((by rw [hg]; exact (below_size (by repeat (first | (with_reducible first | exact HB.out | apply below_alloc | apply pw_below_drewN | apply below_drew1 | refine below_set ?_ GE204.out | refine below_set ?_ GE219.out | refine below_set ?_ GE226.out | refine below_set ?_ GE234.out) | exact HB.out))) : w.heap.size ≤ gb264)); have n17_ := Aside0.mk ((by rw [hg]; exact (below_size (by repeat (first | (with_reducible first | exact HB.out | apply below_alloc | apply pw_below_drewN | apply below_drew1 | refine below_set ?_ GE204.out | refine below_set ?_ GE219.out | refine below_set ?_ GE226.out | refine below_set ?_ GE234.out) | exact HB.out))) : w.heap.size ≤ gb264)); have n18_ := Aside0.mk ((by rw [hg]; exact Nat.ne_of_lt (blk_lt (g := gb204) (o := .cells #[.slice A0_0 l0_0.length c0_0, .slice A0_1 l0_1.length c0_1] 37 (0, 0)) (by (with_reducible repeat (first | refine blk_drewN ?_ _ | refine blk_drew ?_ | refine blk_alloc ?_ _)); exact BK204.out)) : gb204 ≠ gb264)); have n19_ := Aside0.mk ((by rw [hg]; exact Nat.ne_of_gt (blk_lt (g := gb204) (o := .cells #[.slice A0_0 l0_0.length c0_0, .slice A0_1 l0_1.length c0_1] 37 (0, 0)) (by (with_reducible repeat (first | refine blk_drewN ?_ _ | refine blk_drew ?_ | refine blk_alloc ?_ _)); exact BK204.out)) : gb264 ≠ gb204)); have n20_ := Aside0.mk ((by rw [hg]; exact Nat.ne_of_lt (blk_lt (g := gb219) (o := .cells #[.slice Ao21 t212.length co21, .slice Ao24 t215.length co24] 26 (0, 0)) (by (with_reducible repeat (first | refine blk_drewN ?_ _ | refine blk_drew ?_ | refine blk_alloc ?_ _)); exact BK219.out)) : gb219 ≠ gb264)); have n21_ := Aside0.mk ((by rw [hg]; exact Nat.ne_of_gt (blk_lt (g := gb219) (o := .cells #[.slice Ao21 t212.length co21, .slice Ao24 t215.length co24] 26 (0, 0)) (by (with_reducible repeat (first | refine blk_drewN ?_ _ | refine blk_drew ?_ | refine blk_alloc ?_ _)); exact BK219.out)) : gb264 ≠ gb219)); have n22_ := Aside0.mk ((by rw [hg]; exact Nat.ne_of_lt (blk_lt (g := gb226) (o := .cells #[.slice Ao28 t244.length co28, .slice Ao32 t245.length co32] 26 (0, 0)) (by (with_reducible repeat (first | refine blk_drewN ?_ _ | refine blk_drew ?_ | refine blk_alloc ?_ _)); exact BK226.out)) : gb226 ≠ gb264)); have n23_ := Aside0.mk ((by rw [hg]; exact Nat.ne_of_gt (blk_lt (g := gb226) (o := .cells #[.slice Ao28 t244.length co28, .slice Ao32 t245.length co32] 26 (0, 0)) (by (with_reducible repeat (first | refine blk_drewN ?_ _ | refine blk_drew ?_ | refine blk_alloc ?_ _)); exact BK226.out)) : gb264 ≠ gb226)); have n24_ := Aside0.mk ((by rw [hg]; exact Nat.ne_of_lt (blk_lt (g := gb234) (o := .cells #[.slice Ao35 t227.length co35, .slice Ao40 t230.length co40] 26 (0, 0)) (by (with_reducible repeat (first | refine blk_drewN ?_ _ | refine blk_drew ?_ | refine blk_alloc ?_ _)); exact BK234.out)) : gb234 ≠ gb264)); have n25_ := Aside0.mk ((by rw [hg]; exact Nat.ne_of_gt (blk_lt (g := gb234) (o := .cells #[.slice Ao35 t227.length co35, .slice Ao40 t230.length co40] 26 (0, 0)) (by (with_reducible repeat (first | refine blk_drewN ?_ _ | refine blk_drew ?_ | refine blk_alloc ?_ _)); exact BK234.out)) : gb264 ≠ gb234)); clear HO_220000; clear HO_220001; clear HO_227000; clear HO_227001; clear HO_235000; clear HO_235001; clear HO253; clear HO256; clear HO259; clear HO262; clear BK204; clear BK219; clear BK226; clear BK234; clear HB; have HO_220000 := n0_; have HO_220001 := n1_; have HO_227000 := n2_; have HO_227001 := n3_; have HO_235000 := n4_; have HO_235001 := n5_; have HO253 := n6_; have HO256 := n7_; have HO259 := n8_; have HO262 := n9_; have BK204 := n10_; have BK219 := n11_; have BK226 := n12_; have BK234 := n13_; have HB := n14_; have BK264 := n15_; have GW264 := n16_; have GE264 := n17_; have NB204_264 := n18_; have NB264_204 := n19_; have NB219_264 := n20_; have NB264_219 := n21_; have NB226_264 := n22_; have NB264_226 := n23_; have NB234_264 := n24_; have NB264_234 := n25_; clear n0_ n1_ n2_ n3_ n4_ n5_ n6_ n7_ n8_ n9_ n10_ n11_ n12_ n13_ n14_ n15_ n16_ n17_ n18_ n19_ n20_ n21_ n22_ n23_ n24_ n25_; clear hb hbox hg; obtain ⟨Ao101, co101, eo101⟩ := Kd.R_slice HO259.out; subst eo101; have hnb102 := NB264_204.out; have hnc102 := NB204_264.out; have hnb103 := NB264_219.out; have hnc103 := NB219_264.out; have hnb104 := NB264_226.out; have hnc104 := NB226_264.out; have hnb105 := NB264_234.out; have hnc105 := NB234_264.out; have hcz106_0 : w100.cell? ⟨gb264, 0, none⟩ = some (.slice none 0 0) := (blk_cell BK264.out 0).trans rfl; have hcz106_1 : w100.cell? ⟨gb264, 1, none⟩ = some (.slice none 0 0) := (blk_cell BK264.out 1).trans rfl; have hfz106_0 := blk_frozen BK264.out 0; have hfz106_1 := blk_frozen BK264.out 1; obtain ⟨Ao107, co107, eo107⟩ := Kd.R_slice HO262.out; subst eo107))
                      (try simp only [Act.put, List.setIfInBounds_toArray, List.set_cons_zero, List.set_cons_succ])
                      go_cut [87] (fun v87 wc => ∃ (kq : Nat) (x87_84 : Bool), v87 = .bool x87_84 ∧ Aside0 (laws_FnExactIota.j2 kq t247 x87_84 t248 t249 = some r) ∧ Aside0 (kq ≤ kj55) ∧ Aside0 (Kd.R (Kd.int .i64) 3 wc w.heap.size (fun k_ => some k_ ≠ ((.slice Ao24 t215.length co24) : Value).ownBlock ∧ some k_ ≠ ((.slice Ao28 t244.length co28) : Value).ownBlock ∧ some k_ ≠ ((.slice Ao32 t245.length co32) : Value).ownBlock ∧ some k_ ≠ ((.slice Ao35 t227.length co35) : Value).ownBlock ∧ some k_ ≠ ((.slice Ao40 t230.length co40) : Value).ownBlock ∧ some k_ ≠ ((.slice Ao101 t257.length co101) : Value).ownBlock ∧ some k_ ≠ ((.slice Ao107 t260.length co107) : Value).ownBlock) (.slice Ao21 t212.length co21) t212) ∧ Aside0 (Kd.R (Kd.int .i64) 3 wc w.heap.size (fun k_ => some k_ ≠ ((.slice Ao21 t212.length co21) : Value).ownBlock ∧ some k_ ≠ ((.slice Ao28 t244.length co28) : Value).ownBlock ∧ some k_ ≠ ((.slice Ao32 t245.length co32) : Value).ownBlock ∧ some k_ ≠ ((.slice Ao35 t227.length co35) : Value).ownBlock ∧ some k_ ≠ ((.slice Ao40 t230.length co40) : Value).ownBlock ∧ some k_ ≠ ((.slice Ao101 t257.length co101) : Value).ownBlock ∧ some k_ ≠ ((.slice Ao107 t260.length co107) : Value).ownBlock) (.slice Ao24 t215.length co24) t215) ∧ Aside0 (Kd.R (Kd.int .i64) 3 wc w.heap.size (fun k_ => some k_ ≠ ((.slice Ao21 t212.length co21) : Value).ownBlock ∧ some k_ ≠ ((.slice Ao24 t215.length co24) : Value).ownBlock ∧ some k_ ≠ ((.slice Ao32 t245.length co32) : Value).ownBlock ∧ some k_ ≠ ((.slice Ao35 t227.length co35) : Value).ownBlock ∧ some k_ ≠ ((.slice Ao40 t230.length co40) : Value).ownBlock ∧ some k_ ≠ ((.slice Ao101 t257.length co101) : Value).ownBlock ∧ some k_ ≠ ((.slice Ao107 t260.length co107) : Value).ownBlock) (.slice Ao28 t244.length co28) t244) ∧ Aside0 (Kd.R (Kd.int .i64) 3 wc w.heap.size (fun k_ => some k_ ≠ ((.slice Ao21 t212.length co21) : Value).ownBlock ∧ some k_ ≠ ((.slice Ao24 t215.length co24) : Value).ownBlock ∧ some k_ ≠ ((.slice Ao28 t244.length co28) : Value).ownBlock ∧ some k_ ≠ ((.slice Ao35 t227.length co35) : Value).ownBlock ∧ some k_ ≠ ((.slice Ao40 t230.length co40) : Value).ownBlock ∧ some k_ ≠ ((.slice Ao101 t257.length co101) : Value).ownBlock ∧ some k_ ≠ ((.slice Ao107 t260.length co107) : Value).ownBlock) (.slice Ao32 t245.length co32) t245) ∧ Aside0 (Kd.R (Kd.int .i64) 3 wc w.heap.size (fun k_ => some k_ ≠ ((.slice Ao21 t212.length co21) : Value).ownBlock ∧ some k_ ≠ ((.slice Ao24 t215.length co24) : Value).ownBlock ∧ some k_ ≠ ((.slice Ao28 t244.length co28) : Value).ownBlock ∧ some k_ ≠ ((.slice Ao32 t245.length co32) : Value).ownBlock ∧ some k_ ≠ ((.slice Ao40 t230.length co40) : Value).ownBlock ∧ some k_ ≠ ((.slice Ao101 t257.length co101) : Value).ownBlock ∧ some k_ ≠ ((.slice Ao107 t260.length co107) : Value).ownBlock) (.slice Ao35 t227.length co35) t248) ∧ Aside0 (Kd.R (Kd.int .i64) 3 wc w.heap.size (fun k_ => some k_ ≠ ((.slice Ao21 t212.length co21) : Value).ownBlock ∧ some k_ ≠ ((.slice Ao24 t215.length co24) : Value).ownBlock ∧ some k_ ≠ ((.slice Ao28 t244.length co28) : Value).ownBlock ∧ some k_ ≠ ((.slice Ao32 t245.length co32) : Value).ownBlock ∧ some k_ ≠ ((.slice Ao35 t227.length co35) : Value).ownBlock ∧ some k_ ≠ ((.slice Ao101 t257.length co101) : Value).ownBlock ∧ some k_ ≠ ((.slice Ao107 t260.length co107) : Value).ownBlock) (.slice Ao40 t230.length co40) t249) ∧ Aside0 (Kd.R (Kd.int .i64) 3 wc w.heap.size (fun k_ => some k_ ≠ ((.slice Ao21 t212.length co21) : Value).ownBlock ∧ some k_ ≠ ((.slice Ao24 t215.length co24) : Value).ownBlock ∧ some k_ ≠ ((.slice Ao28 t244.length co28) : Value).ownBlock ∧ some k_ ≠ ((.slice Ao32 t245.length co32) : Value).ownBlock ∧ some k_ ≠ ((.slice Ao35 t227.length co35) : Value).ownBlock ∧ some k_ ≠ ((.slice Ao40 t230.length co40) : Value).ownBlock ∧ some k_ ≠ ((.slice Ao107 t260.length co107) : Value).ownBlock) (.slice Ao101 t257.length co101) t257) ∧ Aside0 (Kd.R (Kd.int .i64) 3 wc w.heap.size (fun k_ => some k_ ≠ ((.slice Ao21 t212.length co21) : Value).ownBlock ∧ some k_ ≠ ((.slice Ao24 t215.length co24) : Value).ownBlock ∧ some k_ ≠ ((.slice Ao28 t244.length co28) : Value).ownBlock ∧ some k_ ≠ ((.slice Ao32 t245.length co32) : Value).ownBlock ∧ some k_ ≠ ((.slice Ao35 t227.length co35) : Value).ownBlock ∧ some k_ ≠ ((.slice Ao40 t230.length co40) : Value).ownBlock ∧ some k_ ≠ ((.slice Ao101 t257.length co101) : Value).ownBlock) (.slice Ao107 t260.length co107) t260) ∧ Aside0 (wc.heap[gb204]? = some (.cells #[(.slice A0_0 l0_0.length c0_0), (.slice A0_1 l0_1.length c0_1)] 37 (0, 0))) ∧ Aside0 (wc.heap[gb219]? = some (.cells #[(.slice Ao21 t212.length co21), (.slice Ao24 t215.length co24)] 26 (0, 0))) ∧ Aside0 (wc.heap[gb226]? = some (.cells #[(.slice Ao28 t244.length co28), (.slice Ao32 t245.length co32)] 26 (0, 0))) ∧ Aside0 (wc.heap[gb234]? = some (.cells #[(.slice Ao35 t227.length co35), (.slice Ao40 t230.length co40)] 26 (0, 0))) ∧ Aside0 (wc.heap[gb264]? = some (.cells #[(.slice Ao101 t257.length co101), (.slice Ao107 t260.length co107)] 26 (0, 0))) ∧ Aside0 (Below w.heap.size w wc))
                      case first =>
                        have H := HC85.out
                        clear HC85
                        replace H := Option.bind_eq_some_iff.mp H
                        obtain ⟨t265, A1080, H⟩ := H
                        replace H : (if t265 = true then (laws_FnExactIota.j2 kj55 t247 (t263 != t218) t248 t249) else (laws_FnExactIota.j2 kj55 t247 true t248 t249)) = some r := H
                        have A108 := Aside0.mk A1080
                        clear A1080
                        by_cases c109 : t265 = true
                        · subst c109
                          have H1 : (laws_FnExactIota.j2 kj55 t247 (t263 != t218) t248 t249) = some r := by rw [if_pos rfl] at H; exact H
                          clear H
                          have H := H1
                          clear H1
                          have H' := Aside0.mk H
                          clear H
                          have hnb110 := NB264_204.out
                          have hnc110 := NB204_264.out
                          have hnb111 := NB264_219.out
                          have hnc111 := NB219_264.out
                          have hnb112 := NB264_226.out
                          have hnc112 := NB226_264.out
                          have hnb113 := NB264_234.out
                          have hnc113 := NB234_264.out
                          have hcz114_0 : w100.cell? ⟨gb264, 0, none⟩ = some (.slice none 0 0) := (blk_cell BK264.out 0).trans rfl
                          have hcz114_1 : w100.cell? ⟨gb264, 1, none⟩ = some (.slice none 0 0) := (blk_cell BK264.out 1).trans rfl
                          have hfz114_0 := blk_frozen BK264.out 0
                          have hfz114_1 := blk_frozen BK264.out 1
                          have hnb115 := NB219_204.out
                          have hnc115 := NB204_219.out
                          have hnb116 := NB219_226.out
                          have hnc116 := NB226_219.out
                          have hnb117 := NB219_234.out
                          have hnc117 := NB234_219.out
                          have hcz118_0 : w100.cell? ⟨gb219, 0, none⟩ = some (.slice Ao21 t212.length co21) := (blk_cell BK219.out 0).trans rfl
                          have hcz118_1 : w100.cell? ⟨gb219, 1, none⟩ = some (.slice Ao24 t215.length co24) := (blk_cell BK219.out 1).trans rfl
                          have hfz118_0 := blk_frozen BK219.out 0
                          have hfz118_1 := blk_frozen BK219.out 1
                          go_wp2_with (first | ((with_reducible refine gate_callee (f := 28) rfl ?_); refine goesL_ (some 81) rfl rfl Try.func28 (by kernel_rfl) rfl #[.agg #[.slice Ao101 t257.length co101, .slice Ao107 t260.length co107], .agg #[.slice Ao21 t212.length co21, .slice Ao24 t215.length co24]] rfl (by (try simp only [List.map_toArray, List.map_cons, List.map_nil]); first | done | rfl | (simp only [List.length_drop, List.length_take]; rfl)) ?_; (with_reducible refine (laws_eqArray.calls kj55 _ _ t257 _ _ t260 _ _ t212 _ _ t215 true _ ?side1 ?side2 ?side3 ?side4 ?side5 ?side6 ?side7 ?side8 A108.out).mono ?_); (case side1 => refine (Kd.R_reads' (e := 3) (base := w.heap.size) (ok := fun k_ => ((((((((some k_ ≠ (.slice Ao107 t260.length co107 : Value).ownBlock ∧ some k_ ≠ (.slice Ao21 t212.length co21 : Value).ownBlock) ∧ some k_ ≠ (.slice Ao24 t215.length co24 : Value).ownBlock) ∧ some k_ ≠ (.slice Ao28 t244.length co28 : Value).ownBlock) ∧ some k_ ≠ (.slice Ao32 t245.length co32 : Value).ownBlock) ∧ some k_ ≠ (.slice Ao35 t227.length co35 : Value).ownBlock) ∧ some k_ ≠ (.slice Ao40 t230.length co40 : Value).ownBlock) ∧ some k_ ≠ (.slice Ao97 t251.length co97 : Value).ownBlock) ∧ some k_ ≠ (.slice Ao98 t254.length co98 : Value).ownBlock)) (n := t257.length) (c := co101) ?_).2.2; exact (by (with_reducible repeat (first | apply Kd.R_alloc | apply Kd.R_drewN | apply Kd.R_drew)); exact (Kd.R_mono (Kd.R_far (p := ⟨gb264, 1, none⟩) (Kd.R_far (p := ⟨gb264, 0, none⟩) (Kd.R_types HO259.out BK264.out (by decide)) (fun _ hk => hk.2) (.slice Ao101 t257.length co101)) (fun _ hk => hk.2) (.slice Ao107 t260.length co107)) (fun _ h_ => h_.1)))); (case side2 => exact (Kd.R_reads' HO259.out).2.1); (case side3 => refine (Kd.R_reads' (e := 3) (base := w.heap.size) (ok := fun k_ => ((((((((some k_ ≠ (.slice Ao101 t257.length co101 : Value).ownBlock ∧ some k_ ≠ (.slice Ao21 t212.length co21 : Value).ownBlock) ∧ some k_ ≠ (.slice Ao24 t215.length co24 : Value).ownBlock) ∧ some k_ ≠ (.slice Ao28 t244.length co28 : Value).ownBlock) ∧ some k_ ≠ (.slice Ao32 t245.length co32 : Value).ownBlock) ∧ some k_ ≠ (.slice Ao35 t227.length co35 : Value).ownBlock) ∧ some k_ ≠ (.slice Ao40 t230.length co40 : Value).ownBlock) ∧ some k_ ≠ (.slice Ao97 t251.length co97 : Value).ownBlock) ∧ some k_ ≠ (.slice Ao98 t254.length co98 : Value).ownBlock)) (n := t260.length) (c := co107) ?_).2.2; exact (by (with_reducible repeat (first | apply Kd.R_alloc | apply Kd.R_drewN | apply Kd.R_drew)); exact (Kd.R_mono (Kd.R_far (p := ⟨gb264, 1, none⟩) (Kd.R_far (p := ⟨gb264, 0, none⟩) (Kd.R_types HO262.out BK264.out (by decide)) (fun _ hk => hk.2) (.slice Ao101 t257.length co101)) (fun _ hk => hk.2) (.slice Ao107 t260.length co107)) (fun _ h_ => h_.1)))); (case side4 => exact (Kd.R_reads' HO262.out).2.1); (case side5 => refine (Kd.R_reads' (e := 3) (base := w.heap.size) (ok := fun k_ => (((((some k_ ≠ (.slice Ao24 t215.length co24 : Value).ownBlock ∧ (some k_ ≠ (.slice Ao28 t244.length co28 : Value).ownBlock ∧ (some k_ ≠ (.slice Ao32 t245.length co32 : Value).ownBlock ∧ (some k_ ≠ (.slice Ao35 t227.length co35 : Value).ownBlock ∧ some k_ ≠ (.slice Ao40 t230.length co40 : Value).ownBlock)))) ∧ some k_ ≠ (.slice Ao97 t251.length co97 : Value).ownBlock) ∧ some k_ ≠ (.slice Ao98 t254.length co98 : Value).ownBlock) ∧ some k_ ≠ (.slice Ao101 t257.length co101 : Value).ownBlock) ∧ some k_ ≠ (.slice Ao107 t260.length co107 : Value).ownBlock)) (n := t212.length) (c := co21) ?_).2.2; exact (by (with_reducible repeat (first | apply Kd.R_alloc | apply Kd.R_drewN | apply Kd.R_drew)); exact (Kd.R_mono (Kd.R_far (p := ⟨gb264, 1, none⟩) (Kd.R_far (p := ⟨gb264, 0, none⟩) (Kd.R_types HO_220000.out BK264.out (by decide)) (fun _ hk => hk.2) (.slice Ao101 t257.length co101)) (fun _ hk => hk.2) (.slice Ao107 t260.length co107)) (fun _ h_ => h_.1)))); (case side6 => exact (Kd.R_reads' HO_220000.out).2.1); (case side7 => refine (Kd.R_reads' (e := 3) (base := w.heap.size) (ok := fun k_ => (((((some k_ ≠ (.slice Ao21 t212.length co21 : Value).ownBlock ∧ (some k_ ≠ (.slice Ao28 t244.length co28 : Value).ownBlock ∧ (some k_ ≠ (.slice Ao32 t245.length co32 : Value).ownBlock ∧ (some k_ ≠ (.slice Ao35 t227.length co35 : Value).ownBlock ∧ some k_ ≠ (.slice Ao40 t230.length co40 : Value).ownBlock)))) ∧ some k_ ≠ (.slice Ao97 t251.length co97 : Value).ownBlock) ∧ some k_ ≠ (.slice Ao98 t254.length co98 : Value).ownBlock) ∧ some k_ ≠ (.slice Ao101 t257.length co101 : Value).ownBlock) ∧ some k_ ≠ (.slice Ao107 t260.length co107 : Value).ownBlock)) (n := t215.length) (c := co24) ?_).2.2; exact (by (with_reducible repeat (first | apply Kd.R_alloc | apply Kd.R_drewN | apply Kd.R_drew)); exact (Kd.R_mono (Kd.R_far (p := ⟨gb264, 1, none⟩) (Kd.R_far (p := ⟨gb264, 0, none⟩) (Kd.R_types HO_220001.out BK264.out (by decide)) (fun _ hk => hk.2) (.slice Ao101 t257.length co101)) (fun _ hk => hk.2) (.slice Ao107 t260.length co107)) (fun _ h_ => h_.1)))); (case side8 => exact (Kd.R_reads' HO_220001.out).2.1); rintro e w119 ⟨rfl, hb⟩; refine ⟨_, rfl, ?_⟩; have n0_ := Aside0.mk (Kd.R_below (by (with_reducible repeat (first | apply Kd.R_alloc | apply Kd.R_drewN | apply Kd.R_drew)); exact (Kd.R_mono (Kd.R_far (p := ⟨gb264, 1, none⟩) (Kd.R_far (p := ⟨gb264, 0, none⟩) (Kd.R_types HO_220000.out BK264.out (by decide)) (fun _ hk => hk.2) (.slice Ao101 t257.length co101)) (fun _ hk => hk.2) (.slice Ao107 t260.length co107)) (fun _ h_ => h_.1))) hb); have n1_ := Aside0.mk (Kd.R_below (by (with_reducible repeat (first | apply Kd.R_alloc | apply Kd.R_drewN | apply Kd.R_drew)); exact (Kd.R_mono (Kd.R_far (p := ⟨gb264, 1, none⟩) (Kd.R_far (p := ⟨gb264, 0, none⟩) (Kd.R_types HO_220001.out BK264.out (by decide)) (fun _ hk => hk.2) (.slice Ao101 t257.length co101)) (fun _ hk => hk.2) (.slice Ao107 t260.length co107)) (fun _ h_ => h_.1))) hb); have n2_ := Aside0.mk (Kd.R_below (by (with_reducible repeat (first | apply Kd.R_alloc | apply Kd.R_drewN | apply Kd.R_drew)); exact (Kd.R_mono (Kd.R_far (p := ⟨gb264, 1, none⟩) (Kd.R_far (p := ⟨gb264, 0, none⟩) (Kd.R_types HO_227000.out BK264.out (by decide)) (fun _ hk => hk.2) (.slice Ao101 t257.length co101)) (fun _ hk => hk.2) (.slice Ao107 t260.length co107)) (fun _ h_ => h_.1))) hb); have n3_ := Aside0.mk (Kd.R_below (by (with_reducible repeat (first | apply Kd.R_alloc | apply Kd.R_drewN | apply Kd.R_drew)); exact (Kd.R_mono (Kd.R_far (p := ⟨gb264, 1, none⟩) (Kd.R_far (p := ⟨gb264, 0, none⟩) (Kd.R_types HO_227001.out BK264.out (by decide)) (fun _ hk => hk.2) (.slice Ao101 t257.length co101)) (fun _ hk => hk.2) (.slice Ao107 t260.length co107)) (fun _ h_ => h_.1))) hb); have n4_ := Aside0.mk (Kd.R_below (by (with_reducible repeat (first | apply Kd.R_alloc | apply Kd.R_drewN | apply Kd.R_drew)); exact (Kd.R_mono (Kd.R_far (p := ⟨gb264, 1, none⟩) (Kd.R_far (p := ⟨gb264, 0, none⟩) (Kd.R_types HO_235000.out BK264.out (by decide)) (fun _ hk => hk.2) (.slice Ao101 t257.length co101)) (fun _ hk => hk.2) (.slice Ao107 t260.length co107)) (fun _ h_ => h_.1))) hb); have n5_ := Aside0.mk (Kd.R_below (by (with_reducible repeat (first | apply Kd.R_alloc | apply Kd.R_drewN | apply Kd.R_drew)); exact (Kd.R_mono (Kd.R_far (p := ⟨gb264, 1, none⟩) (Kd.R_far (p := ⟨gb264, 0, none⟩) (Kd.R_types HO_235001.out BK264.out (by decide)) (fun _ hk => hk.2) (.slice Ao101 t257.length co101)) (fun _ hk => hk.2) (.slice Ao107 t260.length co107)) (fun _ h_ => h_.1))) hb); have n6_ := Aside0.mk (Kd.R_below (by (with_reducible repeat (first | apply Kd.R_alloc | apply Kd.R_drewN | apply Kd.R_drew)); exact (Kd.R_mono (Kd.R_far (p := ⟨gb264, 1, none⟩) (Kd.R_far (p := ⟨gb264, 0, none⟩) (Kd.R_types HO253.out BK264.out (by decide)) (fun _ hk => hk.2) (.slice Ao101 t257.length co101)) (fun _ hk => hk.2) (.slice Ao107 t260.length co107)) (fun _ h_ => h_.1))) hb); have n7_ := Aside0.mk (Kd.R_below (by (with_reducible repeat (first | apply Kd.R_alloc | apply Kd.R_drewN | apply Kd.R_drew)); exact (Kd.R_mono (Kd.R_far (p := ⟨gb264, 1, none⟩) (Kd.R_far (p := ⟨gb264, 0, none⟩) (Kd.R_types HO256.out BK264.out (by decide)) (fun _ hk => hk.2) (.slice Ao101 t257.length co101)) (fun _ hk => hk.2) (.slice Ao107 t260.length co107)) (fun _ h_ => h_.1))) hb); have n8_ := Aside0.mk (Kd.R_below (by (with_reducible repeat (first | apply Kd.R_alloc | apply Kd.R_drewN | apply Kd.R_drew)); exact (Kd.R_mono (Kd.R_far (p := ⟨gb264, 1, none⟩) (Kd.R_far (p := ⟨gb264, 0, none⟩) (Kd.R_types HO259.out BK264.out (by decide)) (fun _ hk => hk.2) (.slice Ao101 t257.length co101)) (fun _ hk => hk.2) (.slice Ao107 t260.length co107)) (fun _ h_ => h_.1))) hb); have n9_ := Aside0.mk (Kd.R_below (by (with_reducible repeat (first | apply Kd.R_alloc | apply Kd.R_drewN | apply Kd.R_drew)); exact (Kd.R_mono (Kd.R_far (p := ⟨gb264, 1, none⟩) (Kd.R_far (p := ⟨gb264, 0, none⟩) (Kd.R_types HO262.out BK264.out (by decide)) (fun _ hk => hk.2) (.slice Ao101 t257.length co101)) (fun _ hk => hk.2) (.slice Ao107 t260.length co107)) (fun _ h_ => h_.1))) hb); have n10_ := Aside0.mk (blk_below (g := gb204) (o := .cells #[.slice A0_0 l0_0.length c0_0, .slice A0_1 l0_1.length c0_1] 37 (0, 0)) (by (with_reducible repeat (first | refine blk_drewN ?_ _ | refine blk_drew ?_ | refine blk_alloc ?_ _)); refine blk_far ?_ NB204_264.out _; (with_reducible repeat (first | refine blk_drewN ?_ _ | refine blk_drew ?_ | refine blk_alloc ?_ _)); refine blk_far ?_ NB204_264.out _; (with_reducible repeat (first | refine blk_drewN ?_ _ | refine blk_drew ?_ | refine blk_alloc ?_ _)); exact BK204.out) hb); have n11_ := Aside0.mk (blk_below (g := gb219) (o := .cells #[.slice Ao21 t212.length co21, .slice Ao24 t215.length co24] 26 (0, 0)) (by (with_reducible repeat (first | refine blk_drewN ?_ _ | refine blk_drew ?_ | refine blk_alloc ?_ _)); refine blk_far ?_ NB219_264.out _; (with_reducible repeat (first | refine blk_drewN ?_ _ | refine blk_drew ?_ | refine blk_alloc ?_ _)); refine blk_far ?_ NB219_264.out _; (with_reducible repeat (first | refine blk_drewN ?_ _ | refine blk_drew ?_ | refine blk_alloc ?_ _)); exact BK219.out) hb); have n12_ := Aside0.mk (blk_below (g := gb226) (o := .cells #[.slice Ao28 t244.length co28, .slice Ao32 t245.length co32] 26 (0, 0)) (by (with_reducible repeat (first | refine blk_drewN ?_ _ | refine blk_drew ?_ | refine blk_alloc ?_ _)); refine blk_far ?_ NB226_264.out _; (with_reducible repeat (first | refine blk_drewN ?_ _ | refine blk_drew ?_ | refine blk_alloc ?_ _)); refine blk_far ?_ NB226_264.out _; (with_reducible repeat (first | refine blk_drewN ?_ _ | refine blk_drew ?_ | refine blk_alloc ?_ _)); exact BK226.out) hb); have n13_ := Aside0.mk (blk_below (g := gb234) (o := .cells #[.slice Ao35 t227.length co35, .slice Ao40 t230.length co40] 26 (0, 0)) (by (with_reducible repeat (first | refine blk_drewN ?_ _ | refine blk_drew ?_ | refine blk_alloc ?_ _)); refine blk_far ?_ NB234_264.out _; (with_reducible repeat (first | refine blk_drewN ?_ _ | refine blk_drew ?_ | refine blk_alloc ?_ _)); refine blk_far ?_ NB234_264.out _; (with_reducible repeat (first | refine blk_drewN ?_ _ | refine blk_drew ?_ | refine blk_alloc ?_ _)); exact BK234.out) hb); have n14_ := Aside0.mk (blk_below (g := gb264) (o := .cells #[.slice Ao101 t257.length co101, .slice Ao107 t260.length co107] 26 (0, 0)) (by (with_reducible repeat (first | refine blk_drewN ?_ _ | refine blk_drew ?_ | refine blk_alloc ?_ _)); refine blk_put (cs := #[.slice Ao101 t257.length co101, .slice none 0 0]) ?_ 1 _ rfl; (with_reducible repeat (first | refine blk_drewN ?_ _ | refine blk_drew ?_ | refine blk_alloc ?_ _)); refine blk_put (cs := #[.slice none 0 0, .slice none 0 0]) ?_ 0 _ rfl; (with_reducible repeat (first | refine blk_drewN ?_ _ | refine blk_drew ?_ | refine blk_alloc ?_ _)); exact BK264.out) hb); have n15_ := Aside0.mk (below_step (by repeat (first | (with_reducible first | exact HB.out | apply below_alloc | apply pw_below_drewN | apply below_drew1 | refine below_set ?_ GE204.out | refine below_set ?_ GE219.out | refine below_set ?_ GE226.out | refine below_set ?_ GE234.out | refine below_set ?_ GE264.out) | exact HB.out)) hb); clear HO_220000; clear HO_220001; clear HO_227000; clear HO_227001; clear HO_235000; clear HO_235001; clear HO253; clear HO256; clear HO259; clear HO262; clear BK204; clear BK219; clear BK226; clear BK234; clear BK264; clear HB; have HO_220000 := n0_; have HO_220001 := n1_; have HO_227000 := n2_; have HO_227001 := n3_; have HO_235000 := n4_; have HO_235001 := n5_; have HO253 := n6_; have HO256 := n7_; have HO259 := n8_; have HO262 := n9_; have BK204 := n10_; have BK219 := n11_; have BK226 := n12_; have BK234 := n13_; have BK264 := n14_; have HB := n15_; clear n0_ n1_ n2_ n3_ n4_ n5_ n6_ n7_ n8_ n9_ n10_ n11_ n12_ n13_ n14_ n15_; (try clear hb); (try clear hb2); (try clear hk); (try clear hi)))
                          go_meet
                          case rel => exact ⟨_, ((t263 != t218)), (by first | rfl | (simp; done) | (simp [*]; done)), H', ⟨by have := HJ10.out; have := HJ55.out; first | omega | exact Nat.le_refl _⟩, ⟨by (try simp only [hl227000_55]); (try simp only [hl227001_55]); (with_reducible repeat (first | apply Kd.R_alloc | apply Kd.R_drewN | apply Kd.R_drew)); exact Kd.R_mono HO_220000.out (fun _ hk => ⟨hk.1.1.1.1.1, ⟨hk.1.1.1.1.2.1, ⟨hk.1.1.1.1.2.2.1, ⟨hk.1.1.1.1.2.2.2.1, ⟨hk.1.1.1.1.2.2.2.2, ⟨hk.1.2, hk.2⟩⟩⟩⟩⟩⟩)⟩, ⟨by (try simp only [hl227000_55]); (try simp only [hl227001_55]); (with_reducible repeat (first | apply Kd.R_alloc | apply Kd.R_drewN | apply Kd.R_drew)); exact Kd.R_mono HO_220001.out (fun _ hk => ⟨hk.1.1.1.1.1, ⟨hk.1.1.1.1.2.1, ⟨hk.1.1.1.1.2.2.1, ⟨hk.1.1.1.1.2.2.2.1, ⟨hk.1.1.1.1.2.2.2.2, ⟨hk.1.2, hk.2⟩⟩⟩⟩⟩⟩)⟩, ⟨by (try simp only [hl227000_55]); (try simp only [hl227001_55]); (with_reducible repeat (first | apply Kd.R_alloc | apply Kd.R_drewN | apply Kd.R_drew)); exact Kd.R_mono HO_227000.out (fun _ hk => ⟨hk.1.1.1.1.1, ⟨hk.1.1.1.1.2.1, ⟨hk.1.1.1.1.2.2.1, ⟨hk.1.1.1.1.2.2.2.1, ⟨hk.1.1.1.1.2.2.2.2, ⟨hk.1.2, hk.2⟩⟩⟩⟩⟩⟩)⟩, ⟨by (try simp only [hl227000_55]); (try simp only [hl227001_55]); (with_reducible repeat (first | apply Kd.R_alloc | apply Kd.R_drewN | apply Kd.R_drew)); exact Kd.R_mono HO_227001.out (fun _ hk => ⟨hk.1.1.1.1.1, ⟨hk.1.1.1.1.2.1, ⟨hk.1.1.1.1.2.2.1, ⟨hk.1.1.1.1.2.2.2.1, ⟨hk.1.1.1.1.2.2.2.2, ⟨hk.1.2, hk.2⟩⟩⟩⟩⟩⟩)⟩, ⟨by (try simp only [hl227000_55]); (try simp only [hl227001_55]); (with_reducible repeat (first | apply Kd.R_alloc | apply Kd.R_drewN | apply Kd.R_drew)); exact Kd.R_mono HO_235000.out (fun _ hk => ⟨hk.1.1.1.1.1, ⟨hk.1.1.1.1.2.1, ⟨hk.1.1.1.1.2.2.1, ⟨hk.1.1.1.1.2.2.2.1, ⟨hk.1.1.1.1.2.2.2.2, ⟨hk.1.2, hk.2⟩⟩⟩⟩⟩⟩)⟩, ⟨by (try simp only [hl227000_55]); (try simp only [hl227001_55]); (with_reducible repeat (first | apply Kd.R_alloc | apply Kd.R_drewN | apply Kd.R_drew)); exact Kd.R_mono HO_235001.out (fun _ hk => ⟨hk.1.1.1.1.1, ⟨hk.1.1.1.1.2.1, ⟨hk.1.1.1.1.2.2.1, ⟨hk.1.1.1.1.2.2.2.1, ⟨hk.1.1.1.1.2.2.2.2, ⟨hk.1.2, hk.2⟩⟩⟩⟩⟩⟩)⟩, ⟨by (try simp only [hl227000_55]); (try simp only [hl227001_55]); (with_reducible repeat (first | apply Kd.R_alloc | apply Kd.R_drewN | apply Kd.R_drew)); exact Kd.R_mono HO259.out (fun _ hk => ⟨hk.1.1.1.1.1.1.1.2, ⟨hk.1.1.1.1.1.1.2, ⟨hk.1.1.1.1.1.2, ⟨hk.1.1.1.1.2, ⟨hk.1.1.1.2, ⟨hk.1.1.2, hk.1.1.1.1.1.1.1.1⟩⟩⟩⟩⟩⟩)⟩, ⟨by (try simp only [hl227000_55]); (try simp only [hl227001_55]); (with_reducible repeat (first | apply Kd.R_alloc | apply Kd.R_drewN | apply Kd.R_drew)); exact Kd.R_mono HO262.out (fun _ hk => ⟨hk.1.1.1.1.1.1.1.2, ⟨hk.1.1.1.1.1.1.2, ⟨hk.1.1.1.1.1.2, ⟨hk.1.1.1.1.2, ⟨hk.1.1.1.2, ⟨hk.1.1.2, hk.1.1.1.1.1.1.1.1⟩⟩⟩⟩⟩⟩)⟩, ⟨by (try simp only [hl227000_55]); (try simp only [hl227001_55]); (with_reducible repeat (first | refine blk_drewN ?_ _ | refine blk_drew ?_ | refine blk_alloc ?_ _)); exact BK204.out⟩, ⟨by (try simp only [hl227000_55]); (try simp only [hl227001_55]); (with_reducible repeat (first | refine blk_drewN ?_ _ | refine blk_drew ?_ | refine blk_alloc ?_ _)); exact BK219.out⟩, ⟨by (try simp only [hl227000_55]); (try simp only [hl227001_55]); (with_reducible repeat (first | refine blk_drewN ?_ _ | refine blk_drew ?_ | refine blk_alloc ?_ _)); exact BK226.out⟩, ⟨by (try simp only [hl227000_55]); (try simp only [hl227001_55]); (with_reducible repeat (first | refine blk_drewN ?_ _ | refine blk_drew ?_ | refine blk_alloc ?_ _)); exact BK234.out⟩, ⟨by (try simp only [hl227000_55]); (try simp only [hl227001_55]); (with_reducible repeat (first | refine blk_drewN ?_ _ | refine blk_drew ?_ | refine blk_alloc ?_ _)); exact BK264.out⟩, ⟨by repeat (first | (with_reducible first | exact HB.out | apply below_alloc | apply pw_below_drewN | apply below_drew1 | refine below_set ?_ GE204.out | refine below_set ?_ GE219.out | refine below_set ?_ GE226.out | refine below_set ?_ GE234.out | refine below_set ?_ GE264.out) | exact HB.out)⟩⟩
                        · replace c109 := Bool.eq_false_iff.mpr c109
                          subst c109
                          have H1 : (laws_FnExactIota.j2 kj55 t247 true t248 t249) = some r := by rw [if_neg (show ¬ (false = true) by decide)] at H; exact H
                          clear H
                          have H := H1
                          clear H1
                          have hz_ : ∀ kz, laws_FnExactIota.j2 kz t247 true t248 t249 = some r → r = false := by intro kz hz; cases kz with | zero => exact absurd hz (by simp [laws_FnExactIota.j2]) | succ kz => simp only [laws_FnExactIota.j2] at hz; first | (rw [if_pos rfl] at hz; exact (Option.some.inj hz).symm) | (simp at hz; exact hz.symm) | (simp at hz; exact hz)
                          exact absurd (HT.out.symm.trans (hz_ _ H)) (by decide)
                      case rest =>
                        clear HC85
                        try clear c1
                        try clear c2
                        try clear p2
                        try clear c3
                        try clear c3b0
                        try clear c4
                        try clear c5
                        try clear c6
                        try clear c7
                        try clear c8
                        try clear c9
                        try clear c10
                        try clear c11
                        try clear c22
                        try clear c23
                        try clear c25
                        try clear c28
                        try clear c29
                        try clear c30
                        try clear c32
                        try clear c33
                        try clear c36
                        try clear c37
                        try clear c38
                        try clear c42
                        try clear c43
                        try clear c44
                        try clear c45
                        try clear c47
                        try clear c48
                        try clear c51
                        try clear c54
                        try clear c62
                        try clear c63
                        try clear c64
                        try clear c67
                        try clear c67b0
                        try clear c69
                        try clear c70
                        try clear c71
                        try clear c72
                        try clear c74
                        try clear c75
                        try clear c78
                        try clear c81
                        try clear c81b0
                        try clear c82
                        try clear c82b0
                        try clear c82b1
                        try clear c86
                        try clear c87
                        try clear c88
                        try clear c93
                        try clear c94
                        try clear c102
                        try clear c103
                        try clear c104
                        try clear c105
                        try clear c109
                        try clear c110
                        try clear c111
                        try clear c112
                        try clear c113
                        try clear c115
                        try clear c116
                        try clear c117
                        try clear hcz106_0
                        try clear hcz106_1
                        try clear hcz114_0
                        try clear hcz114_1
                        try clear hcz118_0
                        try clear hcz118_1
                        try clear hcz13_0
                        try clear hcz13_1
                        try clear hcz15_0
                        try clear hcz15_1
                        try clear hcz23_0
                        try clear hcz23_1
                        try clear hcz25_0
                        try clear hcz25_1
                        try clear hcz31_0
                        try clear hcz31_1
                        try clear hcz39_0
                        try clear hcz39_1
                        try clear hcz46_0
                        try clear hcz46_1
                        try clear hcz49_0
                        try clear hcz49_1
                        try clear hcz5_0
                        try clear hcz5_1
                        try clear hcz65_0
                        try clear hcz65_1
                        try clear hcz73_0
                        try clear hcz73_1
                        try clear hcz76_0
                        try clear hcz76_1
                        try clear hcz89_0
                        try clear hcz89_1
                        try clear hcz91_0
                        try clear hcz91_1
                        try clear hcz95_0
                        try clear hcz95_1
                        try clear hfz106_0
                        try clear hfz106_1
                        try clear hfz114_0
                        try clear hfz114_1
                        try clear hfz118_0
                        try clear hfz118_1
                        try clear hfz13_0
                        try clear hfz13_1
                        try clear hfz15_0
                        try clear hfz15_1
                        try clear hfz23_0
                        try clear hfz23_1
                        try clear hfz25_0
                        try clear hfz25_1
                        try clear hfz31_0
                        try clear hfz31_1
                        try clear hfz39_0
                        try clear hfz39_1
                        try clear hfz46_0
                        try clear hfz46_1
                        try clear hfz49_0
                        try clear hfz49_1
                        try clear hfz5_0
                        try clear hfz5_1
                        try clear hfz65_0
                        try clear hfz65_1
                        try clear hfz73_0
                        try clear hfz73_1
                        try clear hfz76_0
                        try clear hfz76_1
                        try clear hfz89_0
                        try clear hfz89_1
                        try clear hfz91_0
                        try clear hfz91_1
                        try clear hfz95_0
                        try clear hfz95_1
                        try clear p2
                        obtain ⟨kq, x87_84, rfl, HA, HJ84, HO_220000, HO_220001, HO_227000, HO_227001, HO_235000, HO_235001, HO_265000, HO_265001, BK204, BK219, BK226, BK234, BK264, HB⟩ := hcut
                        have hl235000_84 := (Kd.R_reads' HO_235000.out).1
                        rw [hl235000_84] at HO_235000
                        (try simp only [hl235000_84])
                        (try simp only [hl235000_84] at BK204)
                        (try simp only [hl235000_84] at BK219)
                        (try simp only [hl235000_84] at BK226)
                        (try simp only [hl235000_84] at BK234)
                        (try simp only [hl235000_84] at BK264)
                        (try simp only [hl235000_84] at HO_220000)
                        (try simp only [hl235000_84] at HO_220001)
                        (try simp only [hl235000_84] at HO_227000)
                        (try simp only [hl235000_84] at HO_227001)
                        (try simp only [hl235000_84] at HO_235001)
                        (try simp only [hl235000_84] at HO_265000)
                        (try simp only [hl235000_84] at HO_265001)
                        have hl235001_84 := (Kd.R_reads' HO_235001.out).1
                        rw [hl235001_84] at HO_235001
                        (try simp only [hl235001_84])
                        (try simp only [hl235001_84] at BK204)
                        (try simp only [hl235001_84] at BK219)
                        (try simp only [hl235001_84] at BK226)
                        (try simp only [hl235001_84] at BK234)
                        (try simp only [hl235001_84] at BK264)
                        (try simp only [hl235001_84] at HO_220000)
                        (try simp only [hl235001_84] at HO_220001)
                        (try simp only [hl235001_84] at HO_227000)
                        (try simp only [hl235001_84] at HO_227001)
                        (try simp only [hl235001_84] at HO_235000)
                        (try simp only [hl235001_84] at HO_265000)
                        (try simp only [hl235001_84] at HO_265001)
                        cases kq with
                        | zero => exact absurd HA.out (by simp [laws_FnExactIota.j2])
                        | succ kj84 =>
                          have H := HA.out
                          clear HA
                          simp only [laws_FnExactIota.j2] at H
                          by_cases c120 : x87_84 = true
                          · subst c120
                            have H1 : (some false) = some r := by rw [if_pos rfl] at H; exact H
                            clear H
                            have H := H1
                            clear H1
                            obtain rfl := Option.some.inj H
                            exact absurd HT.out (by decide)
                          · replace c120 := Bool.eq_false_iff.mpr c120
                            subst c120
                            have H1 : ((laws_heldArray.f kj84 t248 t249 1).bind fun t266 => (if t266 < 0 then (some false) else (if t266 = t247 then (some true) else (some false)))) = some r := by rw [if_neg (show ¬ (false = true) by decide)] at H; exact H
                            clear H
                            have H := H1
                            clear H1
                            replace H := Option.bind_eq_some_iff.mp H
                            obtain ⟨t266, A1210, H⟩ := H
                            replace H : (if t266 < 0 then (some false) else (if t266 = t247 then (some true) else (some false))) = some r := H
                            have A121 := Aside0.mk A1210
                            clear A1210
                            by_cases c122 : t266 < 0
                            · rw [if_pos c122] at H
                              have c122b0 : decide (t266 < 0) = true := decide_eq_true c122
                              clear c122
                              obtain rfl := Option.some.inj H
                              exact absurd HT.out (by decide)
                            · rw [if_neg c122] at H
                              have c122b0 : decide (t266 < 0) = false := decide_eq_false c122
                              clear c122
                              by_cases c123 : t266 = t247
                              · rw [if_pos c123] at H
                                have c123b0 : (t266 == t247) = true := beq_iff_eq.mpr c123
                                have c123b1 : (t266 != t247) = false := bne_eq_false_iff_eq.mpr c123
                                clear c123
                                obtain rfl := Option.some.inj H
                                have hnb124 := NB234_204.out
                                have hnc124 := NB204_234.out
                                have hnb125 := NB234_219.out
                                have hnc125 := NB219_234.out
                                have hnb126 := NB234_226.out
                                have hnc126 := NB226_234.out
                                have hnb127 := NB234_264.out
                                have hnc127 := NB264_234.out
                                have hcz128_0 : wc.cell? ⟨gb234, 0, none⟩ = some (.slice Ao35 t248.length co35) := (blk_cell BK234.out 0).trans rfl
                                have hcz128_1 : wc.cell? ⟨gb234, 1, none⟩ = some (.slice Ao40 t249.length co40) := (blk_cell BK234.out 1).trans rfl
                                have hfz128_0 := blk_frozen BK234.out 0
                                have hfz128_1 := blk_frozen BK234.out 1
                                go_wp2_with (first | ((with_reducible refine gate_callee (f := 33) rfl ?_); refine goesL_ (some 90) rfl rfl Try.func33 (by kernel_rfl) rfl #[.agg #[.slice Ao35 t248.length co35, .slice Ao40 t249.length co40], .int .i64 1] rfl (by (try simp only [List.map_toArray, List.map_cons, List.map_nil]); first | done | rfl | (simp only [List.length_drop, List.length_take]; rfl)) ?_; (with_reducible refine (laws_heldArray.calls kj84 _ _ t248 _ _ t249 1 t266 _ ?side1 ?side2 ?side3 ?side4 A121.out).mono ?_); (case side1 => repeat (first | exact (Kd.R_reads' HO_235000.out).2.2 | (with_reducible refine Kd.C_alloc ?_ _) | (with_reducible refine Kd.C_drewN ?_ _) | (with_reducible refine Kd.C_drew ?_))); (case side2 => exact (Kd.R_reads' HO_235000.out).2.1); (case side3 => repeat (first | exact (Kd.R_reads' HO_235001.out).2.2 | (with_reducible refine Kd.C_alloc ?_ _) | (with_reducible refine Kd.C_drewN ?_ _) | (with_reducible refine Kd.C_drew ?_))); (case side4 => exact (Kd.R_reads' HO_235001.out).2.1); rintro e w129 ⟨rfl, hb⟩; refine ⟨_, rfl, ?_⟩; have n0_ := Aside0.mk (Kd.R_below (by (with_reducible repeat (first | apply Kd.R_alloc | apply Kd.R_drewN | apply Kd.R_drew)); exact HO_220000.out) hb); have n1_ := Aside0.mk (Kd.R_below (by (with_reducible repeat (first | apply Kd.R_alloc | apply Kd.R_drewN | apply Kd.R_drew)); exact HO_220001.out) hb); have n2_ := Aside0.mk (Kd.R_below (by (with_reducible repeat (first | apply Kd.R_alloc | apply Kd.R_drewN | apply Kd.R_drew)); exact HO_227000.out) hb); have n3_ := Aside0.mk (Kd.R_below (by (with_reducible repeat (first | apply Kd.R_alloc | apply Kd.R_drewN | apply Kd.R_drew)); exact HO_227001.out) hb); have n4_ := Aside0.mk (Kd.R_below (by (with_reducible repeat (first | apply Kd.R_alloc | apply Kd.R_drewN | apply Kd.R_drew)); exact HO_235000.out) hb); have n5_ := Aside0.mk (Kd.R_below (by (with_reducible repeat (first | apply Kd.R_alloc | apply Kd.R_drewN | apply Kd.R_drew)); exact HO_235001.out) hb); have n6_ := Aside0.mk (Kd.R_below (by (with_reducible repeat (first | apply Kd.R_alloc | apply Kd.R_drewN | apply Kd.R_drew)); exact HO_265000.out) hb); have n7_ := Aside0.mk (Kd.R_below (by (with_reducible repeat (first | apply Kd.R_alloc | apply Kd.R_drewN | apply Kd.R_drew)); exact HO_265001.out) hb); have n8_ := Aside0.mk (blk_below (g := gb204) (o := .cells #[.slice A0_0 l0_0.length c0_0, .slice A0_1 l0_1.length c0_1] 37 (0, 0)) (by (with_reducible repeat (first | refine blk_drewN ?_ _ | refine blk_drew ?_ | refine blk_alloc ?_ _)); exact BK204.out) hb); have n9_ := Aside0.mk (blk_below (g := gb219) (o := .cells #[.slice Ao21 t212.length co21, .slice Ao24 t215.length co24] 26 (0, 0)) (by (with_reducible repeat (first | refine blk_drewN ?_ _ | refine blk_drew ?_ | refine blk_alloc ?_ _)); exact BK219.out) hb); have n10_ := Aside0.mk (blk_below (g := gb226) (o := .cells #[.slice Ao28 t244.length co28, .slice Ao32 t245.length co32] 26 (0, 0)) (by (with_reducible repeat (first | refine blk_drewN ?_ _ | refine blk_drew ?_ | refine blk_alloc ?_ _)); exact BK226.out) hb); have n11_ := Aside0.mk (blk_below (g := gb234) (o := .cells #[.slice Ao35 t248.length co35, .slice Ao40 t249.length co40] 26 (0, 0)) (by (with_reducible repeat (first | refine blk_drewN ?_ _ | refine blk_drew ?_ | refine blk_alloc ?_ _)); exact BK234.out) hb); have n12_ := Aside0.mk (blk_below (g := gb264) (o := .cells #[.slice Ao101 t257.length co101, .slice Ao107 t260.length co107] 26 (0, 0)) (by (with_reducible repeat (first | refine blk_drewN ?_ _ | refine blk_drew ?_ | refine blk_alloc ?_ _)); exact BK264.out) hb); have n13_ := Aside0.mk (below_step (by repeat (first | (with_reducible first | exact HB.out | apply below_alloc | apply pw_below_drewN | apply below_drew1 | refine below_set ?_ GE204.out | refine below_set ?_ GE219.out | refine below_set ?_ GE226.out | refine below_set ?_ GE234.out | refine below_set ?_ GE264.out) | exact HB.out)) hb); clear HO_220000; clear HO_220001; clear HO_227000; clear HO_227001; clear HO_235000; clear HO_235001; clear HO_265000; clear HO_265001; clear BK204; clear BK219; clear BK226; clear BK234; clear BK264; clear HB; have HO_220000 := n0_; have HO_220001 := n1_; have HO_227000 := n2_; have HO_227001 := n3_; have HO_235000 := n4_; have HO_235001 := n5_; have HO_265000 := n6_; have HO_265001 := n7_; have BK204 := n8_; have BK219 := n9_; have BK226 := n10_; have BK234 := n11_; have BK264 := n12_; have HB := n13_; clear n0_ n1_ n2_ n3_ n4_ n5_ n6_ n7_ n8_ n9_ n10_ n11_ n12_ n13_; (try clear hb); (try clear hb2); (try clear hk); (try clear hi)))
                                go_ret
                                exact ⟨by first | rfl | (simp [errW_none, errW_some] <;> rfl) | (simp [*, errW_none, errW_some] <;> rfl), by repeat (first | (with_reducible first | exact HB.out | apply below_alloc | apply pw_below_drewN | apply below_drew1 | refine below_set ?_ GE204.out | refine below_set ?_ GE219.out | refine below_set ?_ GE226.out | refine below_set ?_ GE234.out | refine below_set ?_ GE264.out) | exact HB.out)⟩
                              · rw [if_neg c123] at H
                                have c123b0 : (t266 == t247) = false := beq_eq_false_iff_ne.mpr c123
                                have c123b1 : (t266 != t247) = true := bne_iff_ne.mpr c123
                                obtain rfl := Option.some.inj H
                                exact absurd HT.out (by decide)
                    · rw [if_neg c82] at H
                      have c82b0 : (t250 == t247) = false := beq_eq_false_iff_ne.mpr c82
                      have c82b1 : (t250 != t247) = true := bne_iff_ne.mpr c82
                      obtain rfl := Option.some.inj H
                      exact absurd HT.out (by decide)
          · replace c54 := Bool.eq_false_iff.mpr c54
            subst c54
            have H1 : (some false) = some r := by rw [if_neg (show ¬ (false = true) by decide)] at H; exact H
            clear H
            have H := H1
            clear H1
            obtain rfl := Option.some.inj H
            exact absurd HT.out (by decide)

end Go.Proofs.Ytlaikodjcjfeiaa.PFnExactIota
