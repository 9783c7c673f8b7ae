/- The walk of what a law reaches, for the law's row: written by a program of this session; it has no condition of its own. -/
import Derived.Test.YtlpgopiajkajjaaPFnNumsx0
import Derived.Test.YtlpgopiajkajjaaPFnNumsx1
import Derived.Test.YtlpgopiajkajjaaPFnNumsx2
import Derived.Test.YtlpgopiajkajjaaPFnNumsx3
import Derived.Test.YtlpgopiajkajjaaPFnNumsx4
namespace Go.Proofs.Ytlpgopiajkajjaa.PFnNums
open Go.RowKit Go.Proofs.YtlpgopiajkajjaaW.PrintWords Go.Proofs.YtlpgopiajkajjaaW.PrintLast Go.Proofs.YtlpgopiajkajjaaW.PrintMore
attribute [local go_sem] max2_int min2_int max_two min_two max_three min_three max_four min_four   -- for this text's walks alone
set_option linter.unusedVariables false
set_option linter.unusedSimpArgs false

/-! ### laws_FnNums: function 3 -/
mutual
def laws_FnNums.j0 : Nat → Int → Int → Int → Int → Bool → Option (Bool)
  | 0, _, _, _, _, _ => none
  | k + 1, x3, x4, x5, x7, x85 => if x85 = true then (some false) else ((impl_Neutral.f k x3).bind fun bt256 => (if x7 = 1 then ((impl_NumOk.f x4).bind fun t258 => (if t258 = true then ((impl_NumOk.f x5).bind fun t259 => (if (bt256.2 != (!t259)) = true then (laws_FnNums.j1 k x3 x5 bt256.1 bt256.2 t259) else (laws_FnNums.j1 k x3 x5 bt256.1 bt256.2 false))) else (if (bt256.2 != true) = true then (laws_FnNums.j1 k x3 x5 bt256.1 bt256.2 false) else (laws_FnNums.j1 k x3 x5 bt256.1 bt256.2 false)))) else (if (bt256.2 != true) = true then ((impl_NumOk.f x4).bind fun t260 => (if t260 = true then ((impl_NumOk.f x5).bind fun t261 => (laws_FnNums.j1 k x3 x5 bt256.1 bt256.2 t261)) else (laws_FnNums.j1 k x3 x5 bt256.1 bt256.2 false))) else (laws_FnNums.j1 k x3 x5 bt256.1 bt256.2 false))))
def laws_FnNums.j1 : Nat → Int → Int → Int → Bool → Bool → Option (Bool)
  | 0, _, _, _, _, _ => none
  | k + 1, x3, x5, x14, x15, x112 => if x112 = true then (some false) else ((impl_NumOk.f x5).bind fun t262 => (if t262 = true then (if x3 = 43 then ((impl_Two.f k x3 x14 x5).bind fun bt263 => (if x15 = true then (if bt263.2 = 0 then (some (bt263.1 == x5)) else (some false)) else (some false))) else (if x3 = 42 then ((impl_Two.f k x3 x14 x5).bind fun bt265 => (if x15 = true then (if bt265.2 = 0 then (some (bt265.1 == x5)) else (some false)) else (some false))) else (if x3 = 38 then ((impl_Two.f k x3 x14 x5).bind fun bt267 => (if x15 = true then (if bt267.2 = 0 then (some (bt267.1 == x5)) else (some false)) else (some false))) else (if x3 = 94 then ((impl_Two.f k x3 x14 x5).bind fun bt269 => (if x15 = true then (if bt269.2 = 0 then (some (bt269.1 == x5)) else (some false)) else (some false))) else (some true))))) else (some true)))
end
def laws_FnNums.f (k : Nat) (l0 : List Int) : Option (Bool) := (laws_big.f l0).bind fun t241 => (if t241 = true then (some true) else ((spec_DrawTwo.f k l0).bind fun bt242 => ((impl_Two.f k bt242.1 bt242.2.1 bt242.2.2).bind fun bt245 => ((spec_Two.f k bt242.1 bt242.2.1 bt242.2.2).bind fun bt247 => ((impl_One.f k bt242.1 bt242.2.1).bind fun bt249 => ((spec_One.f k bt242.1 bt242.2.1).bind fun bt251 => (if bt245.2 = bt247.2 then (if bt249.2 = bt251.2 then (if bt245.2 = 0 then ((impl_NumOk.f bt245.1).bind fun t253 => (if t253 = true then (if bt249.2 = 0 then ((impl_NumOk.f bt249.1).bind fun t254 => (if t254 = true then (laws_FnNums.j0 k bt242.1 bt242.2.1 bt242.2.2 bt245.2 false) else (laws_FnNums.j0 k bt242.1 bt242.2.1 bt242.2.2 bt245.2 true))) else (laws_FnNums.j0 k bt242.1 bt242.2.1 bt242.2.2 bt245.2 false)) else (laws_FnNums.j0 k bt242.1 bt242.2.1 bt242.2.2 bt245.2 true))) else (if bt249.2 = 0 then ((impl_NumOk.f bt249.1).bind fun t255 => (if t255 = true then (laws_FnNums.j0 k bt242.1 bt242.2.1 bt242.2.2 bt245.2 (bt245.1 != 0)) else (laws_FnNums.j0 k bt242.1 bt242.2.1 bt242.2.2 bt245.2 true))) else (laws_FnNums.j0 k bt242.1 bt242.2.1 bt242.2.2 bt245.2 (bt245.1 != 0)))) else (laws_FnNums.j0 k bt242.1 bt242.2.1 bt242.2.2 bt245.2 true)) else (laws_FnNums.j0 k bt242.1 bt242.2.1 bt242.2.2 bt245.2 true))))))))
theorem laws_FnNums.mono_l : ∀ k, (∀ y0 y1 y2 y3 y4, LeO (laws_FnNums.j0 k y0 y1 y2 y3 y4) (laws_FnNums.j0 (k + 1) y0 y1 y2 y3 y4)) ∧ (∀ y0 y1 y2 y3 y4, LeO (laws_FnNums.j1 k y0 y1 y2 y3 y4) (laws_FnNums.j1 (k + 1) y0 y1 y2 y3 y4))
  | 0 => ⟨fun _ _ _ _ _ r h => by simp [laws_FnNums.j0] at h, fun _ _ _ _ _ r h => by simp [laws_FnNums.j1] at h⟩
  | k + 1 => by
    obtain ⟨ih0, ih1⟩ := laws_FnNums.mono_l k
    refine ⟨?_, ?_⟩
    · intro y0 y1 y2 y3 y4
      unfold laws_FnNums.j0
      repeat' first
      | (with_reducible exact ih0 _ _ _ _ _)
      | (with_reducible exact ih1 _ _ _ _ _)
      | (with_reducible exact impl_Neutral.mono _ _)
      | (with_reducible exact impl_One.mono _ _ _)
      | (with_reducible exact impl_Two.mono _ _ _ _)
      | (with_reducible exact spec_DrawTwo.mono _ _)
      | (with_reducible exact spec_One.mono _ _ _)
      | (with_reducible exact spec_Two.mono _ _ _ _)
      | (with_reducible exact LeO.refl _)
      | (with_reducible exact LeO.none _)
      | (with_reducible refine LeO.ite ?_ ?_)
      | (with_reducible refine LeO.bind ?_ (fun _ => ?_))
      | exact ih0 _ _ _ _ _
      | exact ih1 _ _ _ _ _
      | exact impl_Neutral.mono _ _
      | exact impl_One.mono _ _ _
      | exact impl_Two.mono _ _ _ _
      | exact spec_DrawTwo.mono _ _
      | exact spec_One.mono _ _ _
      | exact spec_Two.mono _ _ _ _
      | exact LeO.none _
      | refine LeO.ite ?_ ?_
      | refine LeO.bind ?_ (fun _ => ?_)
    · intro y0 y1 y2 y3 y4
      unfold laws_FnNums.j1
      repeat' first
      | (with_reducible exact ih0 _ _ _ _ _)
      | (with_reducible exact ih1 _ _ _ _ _)
      | (with_reducible exact impl_Neutral.mono _ _)
      | (with_reducible exact impl_One.mono _ _ _)
      | (with_reducible exact impl_Two.mono _ _ _ _)
      | (with_reducible exact spec_DrawTwo.mono _ _)
      | (with_reducible exact spec_One.mono _ _ _)
      | (with_reducible exact spec_Two.mono _ _ _ _)
      | (with_reducible exact LeO.refl _)
      | (with_reducible exact LeO.none _)
      | (with_reducible refine LeO.ite ?_ ?_)
      | (with_reducible refine LeO.bind ?_ (fun _ => ?_))
      | exact ih0 _ _ _ _ _
      | exact ih1 _ _ _ _ _
      | exact impl_Neutral.mono _ _
      | exact impl_One.mono _ _ _
      | exact impl_Two.mono _ _ _ _
      | exact spec_DrawTwo.mono _ _
      | exact spec_One.mono _ _ _
      | exact spec_Two.mono _ _ _ _
      | exact LeO.none _
      | refine LeO.ite ?_ ?_
      | refine LeO.bind ?_ (fun _ => ?_)
theorem laws_FnNums.mono : ∀ a0 k, LeO (laws_FnNums.f k a0) (laws_FnNums.f (k + 1) a0) := by
  intro a0 k
  obtain ⟨ih0, ih1⟩ := laws_FnNums.mono_l k
  unfold laws_FnNums.f
  repeat' first
      | (with_reducible exact ih0 _ _ _ _ _)
      | (with_reducible exact ih1 _ _ _ _ _)
      | (with_reducible exact impl_Neutral.mono _ _)
      | (with_reducible exact impl_One.mono _ _ _)
      | (with_reducible exact impl_Two.mono _ _ _ _)
      | (with_reducible exact spec_DrawTwo.mono _ _)
      | (with_reducible exact spec_One.mono _ _ _)
      | (with_reducible exact spec_Two.mono _ _ _ _)
      | (with_reducible exact LeO.refl _)
      | (with_reducible exact LeO.none _)
      | (with_reducible refine LeO.ite ?_ ?_)
      | (with_reducible refine LeO.bind ?_ (fun _ => ?_))
      | exact ih0 _ _ _ _ _
      | exact ih1 _ _ _ _ _
      | exact impl_Neutral.mono _ _
      | exact impl_One.mono _ _ _
      | exact impl_Two.mono _ _ _ _
      | exact spec_DrawTwo.mono _ _
      | exact spec_One.mono _ _ _
      | exact spec_Two.mono _ _ _ _
      | exact LeO.none _
      | refine LeO.ite ?_ ?_
      | refine LeO.bind ?_ (fun _ => ?_)
set_option maxHeartbeats 8000000 in
set_option maxRecDepth 100000 in
theorem laws_FnNums.calls (k : Nat) (A0 : Option Addr) (c0 : Nat) (l0 : List Int) (r : Bool) (w : World) (hr0 : Kd.C (Kd.int .u8) w A0 l0.length l0) (hc0 : l0.length ≤ c0) (h : laws_FnNums.f k l0 = some r) (hT : r = true) :
    Calls Try.prog 3 #[.slice A0 l0.length c0] w fun e w' => e = .returned (.bool r) ∧ Below w.heap.size w w' := by
  have HT := Aside0.mk hT
  clear hT
  have HR0 := Aside0.mk hr0
  have HC0 := Aside0.mk hc0
  clear hr0 hc0
  have HB := Aside0.mk (Below.refl w.heap.size w)
  have H : ((laws_big.f l0).bind fun t241 => (if t241 = true then (some true) else ((spec_DrawTwo.f k l0).bind fun bt242 => ((impl_Two.f k bt242.1 bt242.2.1 bt242.2.2).bind fun bt245 => ((spec_Two.f k bt242.1 bt242.2.1 bt242.2.2).bind fun bt247 => ((impl_One.f k bt242.1 bt242.2.1).bind fun bt249 => ((spec_One.f k bt242.1 bt242.2.1).bind fun bt251 => (if bt245.2 = bt247.2 then (if bt249.2 = bt251.2 then (if bt245.2 = 0 then ((impl_NumOk.f bt245.1).bind fun t253 => (if t253 = true then (if bt249.2 = 0 then ((impl_NumOk.f bt249.1).bind fun t254 => (if t254 = true then (laws_FnNums.j0 k bt242.1 bt242.2.1 bt242.2.2 bt245.2 false) else (laws_FnNums.j0 k bt242.1 bt242.2.1 bt242.2.2 bt245.2 true))) else (laws_FnNums.j0 k bt242.1 bt242.2.1 bt242.2.2 bt245.2 false)) else (laws_FnNums.j0 k bt242.1 bt242.2.1 bt242.2.2 bt245.2 true))) else (if bt249.2 = 0 then ((impl_NumOk.f bt249.1).bind fun t255 => (if t255 = true then (laws_FnNums.j0 k bt242.1 bt242.2.1 bt242.2.2 bt245.2 (bt245.1 != 0)) else (laws_FnNums.j0 k bt242.1 bt242.2.1 bt242.2.2 bt245.2 true))) else (laws_FnNums.j0 k bt242.1 bt242.2.1 bt242.2.2 bt245.2 (bt245.1 != 0)))) else (laws_FnNums.j0 k bt242.1 bt242.2.1 bt242.2.2 bt245.2 true)) else (laws_FnNums.j0 k bt242.1 bt242.2.1 bt242.2.2 bt245.2 true))))))))) = some r := h
  clear h
  replace H := Option.bind_eq_some_iff.mp H
  obtain ⟨t241, A20, H⟩ := H
  replace H : (if t241 = true then (some true) else ((spec_DrawTwo.f k l0).bind fun bt242 => ((impl_Two.f k bt242.1 bt242.2.1 bt242.2.2).bind fun bt245 => ((spec_Two.f k bt242.1 bt242.2.1 bt242.2.2).bind fun bt247 => ((impl_One.f k bt242.1 bt242.2.1).bind fun bt249 => ((spec_One.f k bt242.1 bt242.2.1).bind fun bt251 => (if bt245.2 = bt247.2 then (if bt249.2 = bt251.2 then (if bt245.2 = 0 then ((impl_NumOk.f bt245.1).bind fun t253 => (if t253 = true then (if bt249.2 = 0 then ((impl_NumOk.f bt249.1).bind fun t254 => (if t254 = true then (laws_FnNums.j0 k bt242.1 bt242.2.1 bt242.2.2 bt245.2 false) else (laws_FnNums.j0 k bt242.1 bt242.2.1 bt242.2.2 bt245.2 true))) else (laws_FnNums.j0 k bt242.1 bt242.2.1 bt242.2.2 bt245.2 false)) else (laws_FnNums.j0 k bt242.1 bt242.2.1 bt242.2.2 bt245.2 true))) else (if bt249.2 = 0 then ((impl_NumOk.f bt249.1).bind fun t255 => (if t255 = true then (laws_FnNums.j0 k bt242.1 bt242.2.1 bt242.2.2 bt245.2 (bt245.1 != 0)) else (laws_FnNums.j0 k bt242.1 bt242.2.1 bt242.2.2 bt245.2 true))) else (laws_FnNums.j0 k bt242.1 bt242.2.1 bt242.2.2 bt245.2 (bt245.1 != 0)))) else (laws_FnNums.j0 k bt242.1 bt242.2.1 bt242.2.2 bt245.2 true)) else (laws_FnNums.j0 k bt242.1 bt242.2.1 bt242.2.2 bt245.2 true)))))))) = some r := H
  have A2 := Aside0.mk A20
  clear A20
  by_cases c3 : t241 = true
  · subst c3
    have H1 : (some true) = some r := by rw [if_pos rfl] at H; exact H
    clear H
    have H := H1
    clear H1
    obtain rfl := Option.some.inj H
    go_enter Try.func3, Try.ntmps3
    go_wp2_with (first | ((with_reducible refine gate_callee (f := 10) rfl ?_); refine goesL_ (some 19) rfl rfl Try.func10 (by kernel_rfl) rfl #[.slice A0 l0.length c0] rfl (by (try simp only [List.map_toArray, List.map_cons, List.map_nil]); first | done | rfl | (simp only [List.length_drop, List.length_take]; rfl)) ?_; (with_reducible refine (laws_big.calls _ _ l0 true _ ?side1 ?side2 A2.out).mono ?_); (case side1 => repeat (first | exact HR0.out | (with_reducible refine Kd.C_alloc ?_ _) | (with_reducible refine Kd.C_drewN ?_ _) | (with_reducible refine Kd.C_drew ?_))); (case side2 => exact HC0.out); rintro e w' ⟨rfl, ⟨nd, rfl⟩⟩; refine ⟨_, rfl, ?_⟩))
    go_ret
    exact ⟨by first | rfl | (simp [errW_none, errW_some] <;> rfl) | (simp [*, errW_none, errW_some] <;> rfl), by repeat (first | (with_reducible first | exact HB.out | apply below_alloc | apply pw_below_drewN | apply below_drew1) | exact HB.out)⟩
  · replace c3 := Bool.eq_false_iff.mpr c3
    subst c3
    have H1 : ((spec_DrawTwo.f k l0).bind fun bt242 => ((impl_Two.f k bt242.1 bt242.2.1 bt242.2.2).bind fun bt245 => ((spec_Two.f k bt242.1 bt242.2.1 bt242.2.2).bind fun bt247 => ((impl_One.f k bt242.1 bt242.2.1).bind fun bt249 => ((spec_One.f k bt242.1 bt242.2.1).bind fun bt251 => (if bt245.2 = bt247.2 then (if bt249.2 = bt251.2 then (if bt245.2 = 0 then ((impl_NumOk.f bt245.1).bind fun t253 => (if t253 = true then (if bt249.2 = 0 then ((impl_NumOk.f bt249.1).bind fun t254 => (if t254 = true then (laws_FnNums.j0 k bt242.1 bt242.2.1 bt242.2.2 bt245.2 false) else (laws_FnNums.j0 k bt242.1 bt242.2.1 bt242.2.2 bt245.2 true))) else (laws_FnNums.j0 k bt242.1 bt242.2.1 bt242.2.2 bt245.2 false)) else (laws_FnNums.j0 k bt242.1 bt242.2.1 bt242.2.2 bt245.2 true))) else (if bt249.2 = 0 then ((impl_NumOk.f bt249.1).bind fun t255 => (if t255 = true then (laws_FnNums.j0 k bt242.1 bt242.2.1 bt242.2.2 bt245.2 (bt245.1 != 0)) else (laws_FnNums.j0 k bt242.1 bt242.2.1 bt242.2.2 bt245.2 true))) else (laws_FnNums.j0 k bt242.1 bt242.2.1 bt242.2.2 bt245.2 (bt245.1 != 0)))) else (laws_FnNums.j0 k bt242.1 bt242.2.1 bt242.2.2 bt245.2 true)) else (laws_FnNums.j0 k bt242.1 bt242.2.1 bt242.2.2 bt245.2 true))))))) = some r := by rw [if_neg (show ¬ (false = true) by decide)] at H; exact H
    clear H
    have H := H1
    clear H1
    replace H := Option.bind_eq_some_iff.mp H
    obtain ⟨⟨t242, t243, t244⟩, A40, H⟩ := H
    replace H : ((impl_Two.f k t242 t243 t244).bind fun bt245 => ((spec_Two.f k t242 t243 t244).bind fun bt247 => ((impl_One.f k t242 t243).bind fun bt249 => ((spec_One.f k t242 t243).bind fun bt251 => (if bt245.2 = bt247.2 then (if bt249.2 = bt251.2 then (if bt245.2 = 0 then ((impl_NumOk.f bt245.1).bind fun t253 => (if t253 = true then (if bt249.2 = 0 then ((impl_NumOk.f bt249.1).bind fun t254 => (if t254 = true then (laws_FnNums.j0 k t242 t243 t244 bt245.2 false) else (laws_FnNums.j0 k t242 t243 t244 bt245.2 true))) else (laws_FnNums.j0 k t242 t243 t244 bt245.2 false)) else (laws_FnNums.j0 k t242 t243 t244 bt245.2 true))) else (if bt249.2 = 0 then ((impl_NumOk.f bt249.1).bind fun t255 => (if t255 = true then (laws_FnNums.j0 k t242 t243 t244 bt245.2 (bt245.1 != 0)) else (laws_FnNums.j0 k t242 t243 t244 bt245.2 true))) else (laws_FnNums.j0 k t242 t243 t244 bt245.2 (bt245.1 != 0)))) else (laws_FnNums.j0 k t242 t243 t244 bt245.2 true)) else (laws_FnNums.j0 k t242 t243 t244 bt245.2 true)))))) = some r := H
    have A4 := Aside0.mk A40
    clear A40
    replace H := Option.bind_eq_some_iff.mp H
    obtain ⟨⟨t245, t246⟩, A50, H⟩ := H
    replace H : ((spec_Two.f k t242 t243 t244).bind fun bt247 => ((impl_One.f k t242 t243).bind fun bt249 => ((spec_One.f k t242 t243).bind fun bt251 => (if t246 = bt247.2 then (if bt249.2 = bt251.2 then (if t246 = 0 then ((impl_NumOk.f t245).bind fun t253 => (if t253 = true then (if bt249.2 = 0 then ((impl_NumOk.f bt249.1).bind fun t254 => (if t254 = true then (laws_FnNums.j0 k t242 t243 t244 t246 false) else (laws_FnNums.j0 k t242 t243 t244 t246 true))) else (laws_FnNums.j0 k t242 t243 t244 t246 false)) else (laws_FnNums.j0 k t242 t243 t244 t246 true))) else (if bt249.2 = 0 then ((impl_NumOk.f bt249.1).bind fun t255 => (if t255 = true then (laws_FnNums.j0 k t242 t243 t244 t246 (t245 != 0)) else (laws_FnNums.j0 k t242 t243 t244 t246 true))) else (laws_FnNums.j0 k t242 t243 t244 t246 (t245 != 0)))) else (laws_FnNums.j0 k t242 t243 t244 t246 true)) else (laws_FnNums.j0 k t242 t243 t244 t246 true))))) = some r := H
    have A5 := Aside0.mk A50
    clear A50
    replace H := Option.bind_eq_some_iff.mp H
    obtain ⟨⟨t247, t248⟩, A60, H⟩ := H
    replace H : ((impl_One.f k t242 t243).bind fun bt249 => ((spec_One.f k t242 t243).bind fun bt251 => (if t246 = t248 then (if bt249.2 = bt251.2 then (if t246 = 0 then ((impl_NumOk.f t245).bind fun t253 => (if t253 = true then (if bt249.2 = 0 then ((impl_NumOk.f bt249.1).bind fun t254 => (if t254 = true then (laws_FnNums.j0 k t242 t243 t244 t246 false) else (laws_FnNums.j0 k t242 t243 t244 t246 true))) else (laws_FnNums.j0 k t242 t243 t244 t246 false)) else (laws_FnNums.j0 k t242 t243 t244 t246 true))) else (if bt249.2 = 0 then ((impl_NumOk.f bt249.1).bind fun t255 => (if t255 = true then (laws_FnNums.j0 k t242 t243 t244 t246 (t245 != 0)) else (laws_FnNums.j0 k t242 t243 t244 t246 true))) else (laws_FnNums.j0 k t242 t243 t244 t246 (t245 != 0)))) else (laws_FnNums.j0 k t242 t243 t244 t246 true)) else (laws_FnNums.j0 k t242 t243 t244 t246 true)))) = some r := H
    have A6 := Aside0.mk A60
    clear A60
    replace H := Option.bind_eq_some_iff.mp H
    obtain ⟨⟨t249, t250⟩, A70, H⟩ := H
    replace H : ((spec_One.f k t242 t243).bind fun bt251 => (if t246 = t248 then (if t250 = bt251.2 then (if t246 = 0 then ((impl_NumOk.f t245).bind fun t253 => (if t253 = true then (if t250 = 0 then ((impl_NumOk.f t249).bind fun t254 => (if t254 = true then (laws_FnNums.j0 k t242 t243 t244 t246 false) else (laws_FnNums.j0 k t242 t243 t244 t246 true))) else (laws_FnNums.j0 k t242 t243 t244 t246 false)) else (laws_FnNums.j0 k t242 t243 t244 t246 true))) else (if t250 = 0 then ((impl_NumOk.f t249).bind fun t255 => (if t255 = true then (laws_FnNums.j0 k t242 t243 t244 t246 (t245 != 0)) else (laws_FnNums.j0 k t242 t243 t244 t246 true))) else (laws_FnNums.j0 k t242 t243 t244 t246 (t245 != 0)))) else (laws_FnNums.j0 k t242 t243 t244 t246 true)) else (laws_FnNums.j0 k t242 t243 t244 t246 true))) = some r := H
    have A7 := Aside0.mk A70
    clear A70
    replace H := Option.bind_eq_some_iff.mp H
    obtain ⟨⟨t251, t252⟩, A80, H⟩ := H
    replace H : (if t246 = t248 then (if t250 = t252 then (if t246 = 0 then ((impl_NumOk.f t245).bind fun t253 => (if t253 = true then (if t250 = 0 then ((impl_NumOk.f t249).bind fun t254 => (if t254 = true then (laws_FnNums.j0 k t242 t243 t244 t246 false) else (laws_FnNums.j0 k t242 t243 t244 t246 true))) else (laws_FnNums.j0 k t242 t243 t244 t246 false)) else (laws_FnNums.j0 k t242 t243 t244 t246 true))) else (if t250 = 0 then ((impl_NumOk.f t249).bind fun t255 => (if t255 = true then (laws_FnNums.j0 k t242 t243 t244 t246 (t245 != 0)) else (laws_FnNums.j0 k t242 t243 t244 t246 true))) else (laws_FnNums.j0 k t242 t243 t244 t246 (t245 != 0)))) else (laws_FnNums.j0 k t242 t243 t244 t246 true)) else (laws_FnNums.j0 k t242 t243 t244 t246 true)) = some r := H
    have A8 := Aside0.mk A80
    clear A80
    have HC9 := Aside0.mk H
    clear H
    go_enter Try.func3, Try.ntmps3
    go_upto_region 8 with (first | ((with_reducible refine gate_callee (f := 10) rfl ?_); refine goesL_ (some 19) rfl rfl Try.func10 (by kernel_rfl) rfl #[.slice A0 l0.length c0] rfl (by (try simp only [List.map_toArray, List.map_cons, List.map_nil]); first | done | rfl | (simp only [List.length_drop, List.length_take]; rfl)) ?_; (with_reducible refine (laws_big.calls _ _ l0 false _ ?side1 ?side2 A2.out).mono ?_); (case side1 => repeat (first | exact HR0.out | (with_reducible refine Kd.C_alloc ?_ _) | (with_reducible refine Kd.C_drewN ?_ _) | (with_reducible refine Kd.C_drew ?_))); (case side2 => exact HC0.out); rintro e w' ⟨rfl, ⟨nd, rfl⟩⟩; refine ⟨_, rfl, ?_⟩) | ((with_reducible refine gate_callee (f := 11) rfl ?_); refine goesL_ (some 22) rfl rfl Try.func11 (by kernel_rfl) rfl #[.slice A0 l0.length c0] rfl (by (try simp only [List.map_toArray, List.map_cons, List.map_nil]); first | done | rfl | (simp only [List.length_drop, List.length_take]; rfl)) ?_; (with_reducible refine (spec_DrawTwo.calls k _ _ l0 t242 t243 t244 _ ?side1 ?side2 A4.out).mono ?_); (case side1 => repeat (first | exact HR0.out | (with_reducible refine Kd.C_alloc ?_ _) | (with_reducible refine Kd.C_drewN ?_ _) | (with_reducible refine Kd.C_drew ?_))); (case side2 => exact HC0.out); rintro e w10 ⟨rfl, hb⟩; refine ⟨_, rfl, ?_⟩; have n0_ := Aside0.mk (below_step (by repeat (first | (with_reducible first | exact HB.out | apply below_alloc | apply pw_below_drewN | apply below_drew1) | exact HB.out)) hb); clear HB; have HB := n0_; clear n0_; (try clear hb); (try clear hb2); (try clear hk); (try clear hi)) | ((with_reducible refine gate_callee (f := 12) rfl ?_); refine goesL_ (some 30) rfl rfl Try.func12 (by kernel_rfl) rfl #[.int .i64 t242, .int .i64 t243, .int .i64 t244] rfl (by (try simp only [List.map_toArray, List.map_cons, List.map_nil]); first | done | rfl | (simp only [List.length_drop, List.length_take]; rfl)) ?_; (with_reducible refine (impl_Two.calls k t242 t243 t244 t245 t246 _ A5.out).mono ?_); rintro e w11 ⟨rfl, hb⟩; refine ⟨_, rfl, ?_⟩; have n0_ := Aside0.mk (below_step (by repeat (first | (with_reducible first | exact HB.out | apply below_alloc | apply pw_below_drewN | apply below_drew1) | exact HB.out)) hb); clear HB; have HB := n0_; clear n0_; (try clear hb); (try clear hb2); (try clear hk); (try clear hi)) | ((with_reducible refine gate_callee (f := 13) rfl ?_); refine goesL_ (some 37) rfl rfl Try.func13 (by kernel_rfl) rfl #[.int .i64 t242, .int .i64 t243, .int .i64 t244] rfl (by (try simp only [List.map_toArray, List.map_cons, List.map_nil]); first | done | rfl | (simp only [List.length_drop, List.length_take]; rfl)) ?_; (with_reducible refine (spec_Two.calls k t242 t243 t244 t247 t248 _ A6.out).mono ?_); rintro e w' ⟨rfl, ⟨nd, rfl⟩⟩; refine ⟨_, rfl, ?_⟩) | ((with_reducible refine gate_callee (f := 14) rfl ?_); refine goesL_ (some 43) rfl rfl Try.func14 (by kernel_rfl) rfl #[.int .i64 t242, .int .i64 t243] rfl (by (try simp only [List.map_toArray, List.map_cons, List.map_nil]); first | done | rfl | (simp only [List.length_drop, List.length_take]; rfl)) ?_; (with_reducible refine (impl_One.calls k t242 t243 t249 t250 _ A7.out).mono ?_); rintro e w12 ⟨rfl, hb⟩; refine ⟨_, rfl, ?_⟩; have n0_ := Aside0.mk (below_step (by repeat (first | (with_reducible first | exact HB.out | apply below_alloc | apply pw_below_drewN | apply below_drew1) | exact HB.out)) hb); clear HB; have HB := n0_; clear n0_; (try clear hb); (try clear hb2); (try clear hk); (try clear hi)) | ((with_reducible refine gate_callee (f := 15) rfl ?_); refine goesL_ (some 49) rfl rfl Try.func15 (by kernel_rfl) rfl #[.int .i64 t242, .int .i64 t243] rfl (by (try simp only [List.map_toArray, List.map_cons, List.map_nil]); first | done | rfl | (simp only [List.length_drop, List.length_take]; rfl)) ?_; (with_reducible refine (spec_One.calls k t242 t243 t251 t252 _ A8.out).mono ?_); rintro e w' ⟨rfl, ⟨nd, rfl⟩⟩; refine ⟨_, rfl, ?_⟩))
    (try simp only [Act.put, List.setIfInBounds_toArray, List.set_cons_zero, List.set_cons_succ])
    go_cut [85] (fun v85 wc => ∃ (kq : Nat) (x85_8 : Bool), v85 = .bool x85_8 ∧ Aside0 (laws_FnNums.j0 kq t242 t243 t244 t246 x85_8 = some r) ∧ Aside0 (kq ≤ k) ∧ Aside0 (Below w.heap.size w wc))
    case first =>
      have H := HC9.out
      clear HC9
      by_cases c13 : t246 = t248
      · rw [if_pos c13] at H
        have c13b0 : (t246 == t248) = true := beq_iff_eq.mpr c13
        have c13b1 : (t246 != t248) = false := bne_eq_false_iff_eq.mpr c13
        clear c13
        (first | rw [c13b0] | (simp only [i64_w, i32_w]; rw [c13b0]) | skip)
        by_cases c14 : t250 = t252
        · rw [if_pos c14] at H
          have c14b0 : (t250 == t252) = true := beq_iff_eq.mpr c14
          have c14b1 : (t250 != t252) = false := bne_eq_false_iff_eq.mpr c14
          clear c14
          by_cases c15 : t246 = 0
          · rw [if_pos c15] at H
            have c15b0 : (t246 == 0) = true := beq_iff_eq.mpr c15
            have c15b1 : (t246 != 0) = false := bne_eq_false_iff_eq.mpr c15
            clear c15
            replace H := Option.bind_eq_some_iff.mp H
            obtain ⟨t253, A160, H⟩ := H
            replace H : (if t253 = true then (if t250 = 0 then ((impl_NumOk.f t249).bind fun t254 => (if t254 = true then (laws_FnNums.j0 k t242 t243 t244 t246 false) else (laws_FnNums.j0 k t242 t243 t244 t246 true))) else (laws_FnNums.j0 k t242 t243 t244 t246 false)) else (laws_FnNums.j0 k t242 t243 t244 t246 true)) = some r := H
            have A16 := Aside0.mk A160
            clear A160
            by_cases c17 : t253 = true
            · subst c17
              have H1 : (if t250 = 0 then ((impl_NumOk.f t249).bind fun t254 => (if t254 = true then (laws_FnNums.j0 k t242 t243 t244 t246 false) else (laws_FnNums.j0 k t242 t243 t244 t246 true))) else (laws_FnNums.j0 k t242 t243 t244 t246 false)) = some r := by rw [if_pos rfl] at H; exact H
              clear H
              have H := H1
              clear H1
              by_cases c18 : t250 = 0
              · rw [if_pos c18] at H
                have c18b0 : (t250 == 0) = true := beq_iff_eq.mpr c18
                have c18b1 : (t250 != 0) = false := bne_eq_false_iff_eq.mpr c18
                clear c18
                replace H := Option.bind_eq_some_iff.mp H
                obtain ⟨t254, A190, H⟩ := H
                replace H : (if t254 = true then (laws_FnNums.j0 k t242 t243 t244 t246 false) else (laws_FnNums.j0 k t242 t243 t244 t246 true)) = some r := H
                have A19 := Aside0.mk A190
                clear A190
                by_cases c20 : t254 = true
                · subst c20
                  have H1 : (laws_FnNums.j0 k t242 t243 t244 t246 false) = some r := by rw [if_pos rfl] at H; exact H
                  clear H
                  have H := H1
                  clear H1
                  have H' := Aside0.mk H
                  clear H
                  go_wp2_with (first | (go_at_call 16; (repeat rw [i64_w]); (with_reducible refine (impl_NumOk.calls t245 true _ A16.out).mono ?_); rintro e w' ⟨rfl, ⟨nd, rfl⟩⟩) | (go_at_call 16; (repeat rw [i64_w]); (with_reducible refine (impl_NumOk.calls t249 true _ A19.out).mono ?_); rintro e w' ⟨rfl, ⟨nd, rfl⟩⟩))
                  go_meet
                  case rel => exact ⟨_, (false), (by first | rfl | (simp; done) | (simp [*]; done)), H', ⟨by first | omega | exact Nat.le_refl _⟩, ⟨by repeat (first | (with_reducible first | exact HB.out | apply below_alloc | apply pw_below_drewN | apply below_drew1) | exact HB.out)⟩⟩
                · replace c20 := Bool.eq_false_iff.mpr c20
                  subst c20
                  have H1 : (laws_FnNums.j0 k t242 t243 t244 t246 true) = some r := by rw [if_neg (show ¬ (false = true) by decide)] at H; exact H
                  clear H
                  have H := H1
                  clear H1
                  have hz_ : ∀ kz, laws_FnNums.j0 kz t242 t243 t244 t246 true = some r → r = false := by intro kz hz; cases kz with | zero => exact absurd hz (by simp [laws_FnNums.j0]) | succ kz => simp only [laws_FnNums.j0] at hz; first | (rw [if_pos rfl] at hz; exact (Option.some.inj hz).symm) | (simp at hz; exact hz.symm) | (simp at hz; exact hz)
                  exact absurd (HT.out.symm.trans (hz_ _ H)) (by decide)
              · rw [if_neg c18] at H
                have c18b0 : (t250 == 0) = false := beq_eq_false_iff_ne.mpr c18
                have c18b1 : (t250 != 0) = true := bne_iff_ne.mpr c18
                have H' := Aside0.mk H
                clear H
                go_wp2_with (first | (go_at_call 16; (repeat rw [i64_w]); (with_reducible refine (impl_NumOk.calls t245 true _ A16.out).mono ?_); rintro e w' ⟨rfl, ⟨nd, rfl⟩⟩))
                go_meet
                case rel => exact ⟨_, (false), (by first | rfl | (simp; done) | (simp [*]; done)), H', ⟨by first | omega | exact Nat.le_refl _⟩, ⟨by repeat (first | (with_reducible first | exact HB.out | apply below_alloc | apply pw_below_drewN | apply below_drew1) | exact HB.out)⟩⟩
            · replace c17 := Bool.eq_false_iff.mpr c17
              subst c17
              have H1 : (laws_FnNums.j0 k t242 t243 t244 t246 true) = some r := by rw [if_neg (show ¬ (false = true) by decide)] at H; exact H
              clear H
              have H := H1
              clear H1
              have hz_ : ∀ kz, laws_FnNums.j0 kz t242 t243 t244 t246 true = some r → r = false := by intro kz hz; cases kz with | zero => exact absurd hz (by simp [laws_FnNums.j0]) | succ kz => simp only [laws_FnNums.j0] at hz; first | (rw [if_pos rfl] at hz; exact (Option.some.inj hz).symm) | (simp at hz; exact hz.symm) | (simp at hz; exact hz)
              exact absurd (HT.out.symm.trans (hz_ _ H)) (by decide)
          · rw [if_neg c15] at H
            have c15b0 : (t246 == 0) = false := beq_eq_false_iff_ne.mpr c15
            have c15b1 : (t246 != 0) = true := bne_iff_ne.mpr c15
            by_cases c21 : t250 = 0
            · rw [if_pos c21] at H
              have c21b0 : (t250 == 0) = true := beq_iff_eq.mpr c21
              have c21b1 : (t250 != 0) = false := bne_eq_false_iff_eq.mpr c21
              clear c21
              replace H := Option.bind_eq_some_iff.mp H
              obtain ⟨t255, A220, H⟩ := H
              replace H : (if t255 = true then (laws_FnNums.j0 k t242 t243 t244 t246 (t245 != 0)) else (laws_FnNums.j0 k t242 t243 t244 t246 true)) = some r := H
              have A22 := Aside0.mk A220
              clear A220
              by_cases c23 : t255 = true
              · subst c23
                have H1 : (laws_FnNums.j0 k t242 t243 t244 t246 (t245 != 0)) = some r := by rw [if_pos rfl] at H; exact H
                clear H
                have H := H1
                clear H1
                have H' := Aside0.mk H
                clear H
                go_wp2_with (first | (go_at_call 16; (repeat rw [i64_w]); (with_reducible refine (impl_NumOk.calls t249 true _ A22.out).mono ?_); rintro e w' ⟨rfl, ⟨nd, rfl⟩⟩))
                go_meet
                case rel => exact ⟨_, ((t245 != 0)), (by first | rfl | (simp; done) | (simp [*]; done)), H', ⟨by first | omega | exact Nat.le_refl _⟩, ⟨by repeat (first | (with_reducible first | exact HB.out | apply below_alloc | apply pw_below_drewN | apply below_drew1) | exact HB.out)⟩⟩
              · replace c23 := Bool.eq_false_iff.mpr c23
                subst c23
                have H1 : (laws_FnNums.j0 k t242 t243 t244 t246 true) = some r := by rw [if_neg (show ¬ (false = true) by decide)] at H; exact H
                clear H
                have H := H1
                clear H1
                have hz_ : ∀ kz, laws_FnNums.j0 kz t242 t243 t244 t246 true = some r → r = false := by intro kz hz; cases kz with | zero => exact absurd hz (by simp [laws_FnNums.j0]) | succ kz => simp only [laws_FnNums.j0] at hz; first | (rw [if_pos rfl] at hz; exact (Option.some.inj hz).symm) | (simp at hz; exact hz.symm) | (simp at hz; exact hz)
                exact absurd (HT.out.symm.trans (hz_ _ H)) (by decide)
            · rw [if_neg c21] at H
              have c21b0 : (t250 == 0) = false := beq_eq_false_iff_ne.mpr c21
              have c21b1 : (t250 != 0) = true := bne_iff_ne.mpr c21
              have H' := Aside0.mk H
              clear H
              go_wp2
              go_meet
              case rel => exact ⟨_, ((t245 != 0)), (by first | rfl | (simp; done) | (simp [*]; done)), H', ⟨by first | omega | exact Nat.le_refl _⟩, ⟨by repeat (first | (with_reducible first | exact HB.out | apply below_alloc | apply pw_below_drewN | apply below_drew1) | exact HB.out)⟩⟩
        · rw [if_neg c14] at H
          have c14b0 : (t250 == t252) = false := beq_eq_false_iff_ne.mpr c14
          have c14b1 : (t250 != t252) = true := bne_iff_ne.mpr c14
          have hz_ : ∀ kz, laws_FnNums.j0 kz t242 t243 t244 t246 true = some r → r = false := by intro kz hz; cases kz with | zero => exact absurd hz (by simp [laws_FnNums.j0]) | succ kz => simp only [laws_FnNums.j0] at hz; first | (rw [if_pos rfl] at hz; exact (Option.some.inj hz).symm) | (simp at hz; exact hz.symm) | (simp at hz; exact hz)
          exact absurd (HT.out.symm.trans (hz_ _ H)) (by decide)
      · rw [if_neg c13] at H
        have c13b0 : (t246 == t248) = false := beq_eq_false_iff_ne.mpr c13
        have c13b1 : (t246 != t248) = true := bne_iff_ne.mpr c13
        (first | rw [c13b0] | (simp only [i64_w, i32_w]; rw [c13b0]) | skip)
        have hz_ : ∀ kz, laws_FnNums.j0 kz t242 t243 t244 t246 true = some r → r = false := by intro kz hz; cases kz with | zero => exact absurd hz (by simp [laws_FnNums.j0]) | succ kz => simp only [laws_FnNums.j0] at hz; first | (rw [if_pos rfl] at hz; exact (Option.some.inj hz).symm) | (simp at hz; exact hz.symm) | (simp at hz; exact hz)
        exact absurd (HT.out.symm.trans (hz_ _ H)) (by decide)
    case rest =>
      clear HC9
      try clear c1
      try clear c2
      try clear p2
      try clear c3
      try clear c10
      try clear c11
      try clear c12
      try clear c13
      try clear c13b0
      try clear c13b1
      try clear c14
      try clear c14b0
      try clear c14b1
      try clear c15
      try clear c15b0
      try clear c15b1
      try clear c17
      try clear c18
      try clear c18b0
      try clear c18b1
      try clear c20
      try clear c21
      try clear c21b0
      try clear c21b1
      try clear c23
      obtain ⟨kq, x85_8, rfl, HA, HJ8, HB⟩ := hcut
      cases kq with
      | zero => exact absurd HA.out (by simp [laws_FnNums.j0])
      | succ kj8 =>
        have H := HA.out
        clear HA
        simp only [laws_FnNums.j0] at H
        by_cases c24 : x85_8 = true
        · subst c24
          have H1 : (some false) = some r := by rw [if_pos rfl] at H; exact H
          clear H
          have H := H1
          clear H1
          obtain rfl := Option.some.inj H
          exact absurd HT.out (by decide)
        · replace c24 := Bool.eq_false_iff.mpr c24
          subst c24
          have H1 : ((impl_Neutral.f kj8 t242).bind fun bt256 => (if t246 = 1 then ((impl_NumOk.f t243).bind fun t258 => (if t258 = true then ((impl_NumOk.f t244).bind fun t259 => (if (bt256.2 != (!t259)) = true then (laws_FnNums.j1 kj8 t242 t244 bt256.1 bt256.2 t259) else (laws_FnNums.j1 kj8 t242 t244 bt256.1 bt256.2 false))) else (if (bt256.2 != true) = true then (laws_FnNums.j1 kj8 t242 t244 bt256.1 bt256.2 false) else (laws_FnNums.j1 kj8 t242 t244 bt256.1 bt256.2 false)))) else (if (bt256.2 != true) = true then ((impl_NumOk.f t243).bind fun t260 => (if t260 = true then ((impl_NumOk.f t244).bind fun t261 => (laws_FnNums.j1 kj8 t242 t244 bt256.1 bt256.2 t261)) else (laws_FnNums.j1 kj8 t242 t244 bt256.1 bt256.2 false))) else (laws_FnNums.j1 kj8 t242 t244 bt256.1 bt256.2 false)))) = some r := by rw [if_neg (show ¬ (false = true) by decide)] at H; exact H
          clear H
          have H := H1
          clear H1
          replace H := Option.bind_eq_some_iff.mp H
          obtain ⟨⟨t256, t257⟩, A250, H⟩ := H
          replace H : (if t246 = 1 then ((impl_NumOk.f t243).bind fun t258 => (if t258 = true then ((impl_NumOk.f t244).bind fun t259 => (if (t257 != (!t259)) = true then (laws_FnNums.j1 kj8 t242 t244 t256 t257 t259) else (laws_FnNums.j1 kj8 t242 t244 t256 t257 false))) else (if (t257 != true) = true then (laws_FnNums.j1 kj8 t242 t244 t256 t257 false) else (laws_FnNums.j1 kj8 t242 t244 t256 t257 false)))) else (if (t257 != true) = true then ((impl_NumOk.f t243).bind fun t260 => (if t260 = true then ((impl_NumOk.f t244).bind fun t261 => (laws_FnNums.j1 kj8 t242 t244 t256 t257 t261)) else (laws_FnNums.j1 kj8 t242 t244 t256 t257 false))) else (laws_FnNums.j1 kj8 t242 t244 t256 t257 false))) = some r := H
          have A25 := Aside0.mk A250
          clear A250
          have HC26 := Aside0.mk H
          clear H
          go_upto_region 11 with (first | ((with_reducible refine gate_callee (f := 17) rfl ?_); refine goesL_ (some 88) rfl rfl Try.func17 (by kernel_rfl) rfl #[.int .i64 t242] rfl (by (try simp only [List.map_toArray, List.map_cons, List.map_nil]); first | done | rfl | (simp only [List.length_drop, List.length_take]; rfl)) ?_; (with_reducible refine (impl_Neutral.calls kj8 t242 t256 t257 _ A25.out).mono ?_); rintro e w' ⟨rfl, ⟨nd, rfl⟩⟩; refine ⟨_, rfl, ?_⟩))
          (try simp only [Act.put, List.setIfInBounds_toArray, List.set_cons_zero, List.set_cons_succ])
          go_cut [112] (fun v112 wc => ∃ (kq : Nat) (x112_25 : Bool), v112 = .bool x112_25 ∧ Aside0 (laws_FnNums.j1 kq t242 t244 t256 t257 x112_25 = some r) ∧ Aside0 (kq ≤ kj8) ∧ Aside0 (Below w.heap.size w wc))
          case first =>
            have H := HC26.out
            clear HC26
            by_cases c27 : t246 = 1
            · rw [if_pos c27] at H
              have c27b0 : (t246 == 1) = true := beq_iff_eq.mpr c27
              have c27b1 : (t246 != 1) = false := bne_eq_false_iff_eq.mpr c27
              clear c27
              (first | rw [c27b0] | (simp only [i64_w, i32_w]; rw [c27b0]) | skip)
              replace H := Option.bind_eq_some_iff.mp H
              obtain ⟨t258, A280, H⟩ := H
              replace H : (if t258 = true then ((impl_NumOk.f t244).bind fun t259 => (if (t257 != (!t259)) = true then (laws_FnNums.j1 kj8 t242 t244 t256 t257 t259) else (laws_FnNums.j1 kj8 t242 t244 t256 t257 false))) else (if (t257 != true) = true then (laws_FnNums.j1 kj8 t242 t244 t256 t257 false) else (laws_FnNums.j1 kj8 t242 t244 t256 t257 false))) = some r := H
              have A28 := Aside0.mk A280
              clear A280
              by_cases c29 : t258 = true
              · subst c29
                have H1 : ((impl_NumOk.f t244).bind fun t259 => (if (t257 != (!t259)) = true then (laws_FnNums.j1 kj8 t242 t244 t256 t257 t259) else (laws_FnNums.j1 kj8 t242 t244 t256 t257 false))) = some r := by rw [if_pos rfl] at H; exact H
                clear H
                have H := H1
                clear H1
                replace H := Option.bind_eq_some_iff.mp H
                obtain ⟨t259, A300, H⟩ := H
                replace H : (if (t257 != (!t259)) = true then (laws_FnNums.j1 kj8 t242 t244 t256 t257 t259) else (laws_FnNums.j1 kj8 t242 t244 t256 t257 false)) = some r := H
                have A30 := Aside0.mk A300
                clear A300
                by_cases c31 : (t257 != (!t259)) = true
                · rw [if_pos c31] at H
                  have c31b0 : (t257 != (!t259)) = true := c31
                  (try (have c31b1 : decide (t257 = (!t259)) = false := by simpa using c31))
                  (try (have c31b2 : (t257 == (!t259)) = false := by simpa using c31))
                  (try (have c31b3 : ¬ (t257 = (!t259)) := by simpa using c31))
                  clear c31
                  have H' := Aside0.mk H
                  clear H
                  go_wp2_with (first | (go_at_call 16; (repeat rw [i64_w]); (with_reducible refine (impl_NumOk.calls t243 true _ A28.out).mono ?_); rintro e w' ⟨rfl, ⟨nd, rfl⟩⟩) | (go_at_call 16; (repeat rw [i64_w]); (with_reducible refine (impl_NumOk.calls t244 t259 _ A30.out).mono ?_); rintro e w' ⟨rfl, ⟨nd, rfl⟩⟩))
                  go_meet
                  case rel => exact ⟨_, (t259), (by first | rfl | (simp; done) | (simp [*]; done)), H', ⟨by have := HJ8.out; first | omega | exact Nat.le_refl _⟩, ⟨by repeat (first | (with_reducible first | exact HB.out | apply below_alloc | apply pw_below_drewN | apply below_drew1) | exact HB.out)⟩⟩
                · rw [if_neg c31] at H
                  have c31b0 : (t257 != (!t259)) = false := by simpa using c31
                  (try (have c31b1 : decide (t257 = (!t259)) = true := by simpa using c31))
                  (try (have c31b2 : (t257 == (!t259)) = true := by simpa using c31))
                  clear c31
                  have H' := Aside0.mk H
                  clear H
                  have e_ : t257 = (!t259) := (show ∀ a b : Bool, (a != (!b)) = false → a = (!b) by decide) _ _ c31b0
                  subst e_
                  go_wp2_with (first | (go_at_call 16; (repeat rw [i64_w]); (with_reducible refine (impl_NumOk.calls t243 true _ A28.out).mono ?_); rintro e w' ⟨rfl, ⟨nd, rfl⟩⟩) | (go_at_call 16; (repeat rw [i64_w]); (with_reducible refine (impl_NumOk.calls t244 t259 _ A30.out).mono ?_); rintro e w' ⟨rfl, ⟨nd, rfl⟩⟩))
                  go_meet
                  case rel => exact ⟨_, (false), (by first | rfl | (simp; done) | (simp [*]; done)), H', ⟨by have := HJ8.out; first | omega | exact Nat.le_refl _⟩, ⟨by repeat (first | (with_reducible first | exact HB.out | apply below_alloc | apply pw_below_drewN | apply below_drew1) | exact HB.out)⟩⟩
              · replace c29 := Bool.eq_false_iff.mpr c29
                subst c29
                have H1 : (if (t257 != true) = true then (laws_FnNums.j1 kj8 t242 t244 t256 t257 false) else (laws_FnNums.j1 kj8 t242 t244 t256 t257 false)) = some r := by rw [if_neg (show ¬ (false = true) by decide)] at H; exact H
                clear H
                have H := H1
                clear H1
                by_cases c32 : (t257 != true) = true
                · rw [if_pos c32] at H
                  have c32b0 : (t257 != true) = true := c32
                  (try (have c32b1 : decide (t257 = true) = false := by simpa using c32))
                  (try (have c32b2 : (t257 == true) = false := by simpa using c32))
                  (try (have c32b3 : ¬ (t257 = true) := by simpa using c32))
                  clear c32
                  have H' := Aside0.mk H
                  clear H
                  have e_ : t257 = false := by simpa using c32b0
                  subst e_
                  go_wp2_with (first | (go_at_call 16; (repeat rw [i64_w]); (with_reducible refine (impl_NumOk.calls t243 false _ A28.out).mono ?_); rintro e w' ⟨rfl, ⟨nd, rfl⟩⟩))
                  go_meet
                  case rel => exact ⟨_, (false), (by first | rfl | (simp; done) | (simp [*]; done)), H', ⟨by have := HJ8.out; first | omega | exact Nat.le_refl _⟩, ⟨by repeat (first | (with_reducible first | exact HB.out | apply below_alloc | apply pw_below_drewN | apply below_drew1) | exact HB.out)⟩⟩
                · rw [if_neg c32] at H
                  have c32b0 : (t257 != true) = false := by simpa using c32
                  (try (have c32b1 : decide (t257 = true) = true := by simpa using c32))
                  (try (have c32b2 : (t257 == true) = true := by simpa using c32))
                  clear c32
                  have H' := Aside0.mk H
                  clear H
                  go_wp2_with (first | (go_at_call 16; (repeat rw [i64_w]); (with_reducible refine (impl_NumOk.calls t243 false _ A28.out).mono ?_); rintro e w' ⟨rfl, ⟨nd, rfl⟩⟩))
                  go_meet
                  case rel => exact ⟨_, (false), (by first | rfl | (simp; done) | (simp [*]; done)), H', ⟨by have := HJ8.out; first | omega | exact Nat.le_refl _⟩, ⟨by repeat (first | (with_reducible first | exact HB.out | apply below_alloc | apply pw_below_drewN | apply below_drew1) | exact HB.out)⟩⟩
            · rw [if_neg c27] at H
              have c27b0 : (t246 == 1) = false := beq_eq_false_iff_ne.mpr c27
              have c27b1 : (t246 != 1) = true := bne_iff_ne.mpr c27
              (first | rw [c27b0] | (simp only [i64_w, i32_w]; rw [c27b0]) | skip)
              by_cases c33 : (t257 != true) = true
              · rw [if_pos c33] at H
                have c33b0 : (t257 != true) = true := c33
                (try (have c33b1 : decide (t257 = true) = false := by simpa using c33))
                (try (have c33b2 : (t257 == true) = false := by simpa using c33))
                (try (have c33b3 : ¬ (t257 = true) := by simpa using c33))
                clear c33
                replace H := Option.bind_eq_some_iff.mp H
                obtain ⟨t260, A340, H⟩ := H
                replace H : (if t260 = true then ((impl_NumOk.f t244).bind fun t261 => (laws_FnNums.j1 kj8 t242 t244 t256 t257 t261)) else (laws_FnNums.j1 kj8 t242 t244 t256 t257 false)) = some r := H
                have A34 := Aside0.mk A340
                clear A340
                by_cases c35 : t260 = true
                · subst c35
                  have H1 : ((impl_NumOk.f t244).bind fun t261 => (laws_FnNums.j1 kj8 t242 t244 t256 t257 t261)) = some r := by rw [if_pos rfl] at H; exact H
                  clear H
                  have H := H1
                  clear H1
                  replace H := Option.bind_eq_some_iff.mp H
                  obtain ⟨t261, A360, H⟩ := H
                  replace H : (laws_FnNums.j1 kj8 t242 t244 t256 t257 t261) = some r := H
                  have A36 := Aside0.mk A360
                  clear A360
                  have H' := Aside0.mk H
                  clear H
                  have e_ : t257 = false := by simpa using c33b0
                  subst e_
                  go_wp2_with (first | (go_at_call 16; (repeat rw [i64_w]); (with_reducible refine (impl_NumOk.calls t243 true _ A34.out).mono ?_); rintro e w' ⟨rfl, ⟨nd, rfl⟩⟩) | (go_at_call 16; (repeat rw [i64_w]); (with_reducible refine (impl_NumOk.calls t244 t261 _ A36.out).mono ?_); rintro e w' ⟨rfl, ⟨nd, rfl⟩⟩))
                  go_meet
                  case rel => exact ⟨_, (t261), (by first | rfl | (simp; done) | (simp [*]; done)), H', ⟨by have := HJ8.out; first | omega | exact Nat.le_refl _⟩, ⟨by repeat (first | (with_reducible first | exact HB.out | apply below_alloc | apply pw_below_drewN | apply below_drew1) | exact HB.out)⟩⟩
                · replace c35 := Bool.eq_false_iff.mpr c35
                  subst c35
                  have H1 : (laws_FnNums.j1 kj8 t242 t244 t256 t257 false) = some r := by rw [if_neg (show ¬ (false = true) by decide)] at H; exact H
                  clear H
                  have H := H1
                  clear H1
                  have H' := Aside0.mk H
                  clear H
                  have e_ : t257 = false := by simpa using c33b0
                  subst e_
                  go_wp2_with (first | (go_at_call 16; (repeat rw [i64_w]); (with_reducible refine (impl_NumOk.calls t243 false _ A34.out).mono ?_); rintro e w' ⟨rfl, ⟨nd, rfl⟩⟩))
                  go_meet
                  case rel => exact ⟨_, (false), (by first | rfl | (simp; done) | (simp [*]; done)), H', ⟨by have := HJ8.out; first | omega | exact Nat.le_refl _⟩, ⟨by repeat (first | (with_reducible first | exact HB.out | apply below_alloc | apply pw_below_drewN | apply below_drew1) | exact HB.out)⟩⟩
              · rw [if_neg c33] at H
                have c33b0 : (t257 != true) = false := by simpa using c33
                (try (have c33b1 : decide (t257 = true) = true := by simpa using c33))
                (try (have c33b2 : (t257 == true) = true := by simpa using c33))
                clear c33
                have H' := Aside0.mk H
                clear H
                go_wp2
                go_meet
                case rel => exact ⟨_, (false), (by first | rfl | (simp; done) | (simp [*]; done)), H', ⟨by have := HJ8.out; first | omega | exact Nat.le_refl _⟩, ⟨by repeat (first | (with_reducible first | exact HB.out | apply below_alloc | apply pw_below_drewN | apply below_drew1) | exact HB.out)⟩⟩
          case rest =>
            clear HC26
            try clear c1
            try clear c2
            try clear p2
            try clear c3
            try clear c10
            try clear c11
            try clear c12
            try clear c13
            try clear c13b0
            try clear c13b1
            try clear c14
            try clear c14b0
            try clear c14b1
            try clear c15
            try clear c15b0
            try clear c15b1
            try clear c17
            try clear c18
            try clear c18b0
            try clear c18b1
            try clear c20
            try clear c21
            try clear c21b0
            try clear c21b1
            try clear c23
            try clear c24
            try clear c27
            try clear c27b0
            try clear c27b1
            try clear c29
            try clear c31
            try clear c31b0
            try clear c31b1
            try clear c31b2
            try clear c32
            try clear c32b0
            try clear c32b1
            try clear c32b2
            try clear c33
            try clear c33b0
            try clear c33b1
            try clear c33b2
            try clear c35
            try clear p2
            obtain ⟨kq, x112_25, rfl, HA, HJ25, HB⟩ := hcut
            cases kq with
            | zero => exact absurd HA.out (by simp [laws_FnNums.j1])
            | succ kj25 =>
              have H := HA.out
              clear HA
              simp only [laws_FnNums.j1] at H
              by_cases c37 : x112_25 = true
              · subst c37
                have H1 : (some false) = some r := by rw [if_pos rfl] at H; exact H
                clear H
                have H := H1
                clear H1
                obtain rfl := Option.some.inj H
                exact absurd HT.out (by decide)
              · replace c37 := Bool.eq_false_iff.mpr c37
                subst c37
                have H1 : ((impl_NumOk.f t244).bind fun t262 => (if t262 = true then (if t242 = 43 then ((impl_Two.f kj25 t242 t256 t244).bind fun bt263 => (if t257 = true then (if bt263.2 = 0 then (some (bt263.1 == t244)) else (some false)) else (some false))) else (if t242 = 42 then ((impl_Two.f kj25 t242 t256 t244).bind fun bt265 => (if t257 = true then (if bt265.2 = 0 then (some (bt265.1 == t244)) else (some false)) else (some false))) else (if t242 = 38 then ((impl_Two.f kj25 t242 t256 t244).bind fun bt267 => (if t257 = true then (if bt267.2 = 0 then (some (bt267.1 == t244)) else (some false)) else (some false))) else (if t242 = 94 then ((impl_Two.f kj25 t242 t256 t244).bind fun bt269 => (if t257 = true then (if bt269.2 = 0 then (some (bt269.1 == t244)) else (some false)) else (some false))) else (some true))))) else (some true))) = some r := by rw [if_neg (show ¬ (false = true) by decide)] at H; exact H
                clear H
                have H := H1
                clear H1
                replace H := Option.bind_eq_some_iff.mp H
                obtain ⟨t262, A380, H⟩ := H
                replace H : (if t262 = true then (if t242 = 43 then ((impl_Two.f kj25 t242 t256 t244).bind fun bt263 => (if t257 = true then (if bt263.2 = 0 then (some (bt263.1 == t244)) else (some false)) else (some false))) else (if t242 = 42 then ((impl_Two.f kj25 t242 t256 t244).bind fun bt265 => (if t257 = true then (if bt265.2 = 0 then (some (bt265.1 == t244)) else (some false)) else (some false))) else (if t242 = 38 then ((impl_Two.f kj25 t242 t256 t244).bind fun bt267 => (if t257 = true then (if bt267.2 = 0 then (some (bt267.1 == t244)) else (some false)) else (some false))) else (if t242 = 94 then ((impl_Two.f kj25 t242 t256 t244).bind fun bt269 => (if t257 = true then (if bt269.2 = 0 then (some (bt269.1 == t244)) else (some false)) else (some false))) else (some true))))) else (some true)) = some r := H
                have A38 := Aside0.mk A380
                clear A380
                by_cases c39 : t262 = true
                · subst c39
                  have H1 : (if t242 = 43 then ((impl_Two.f kj25 t242 t256 t244).bind fun bt263 => (if t257 = true then (if bt263.2 = 0 then (some (bt263.1 == t244)) else (some false)) else (some false))) else (if t242 = 42 then ((impl_Two.f kj25 t242 t256 t244).bind fun bt265 => (if t257 = true then (if bt265.2 = 0 then (some (bt265.1 == t244)) else (some false)) else (some false))) else (if t242 = 38 then ((impl_Two.f kj25 t242 t256 t244).bind fun bt267 => (if t257 = true then (if bt267.2 = 0 then (some (bt267.1 == t244)) else (some false)) else (some false))) else (if t242 = 94 then ((impl_Two.f kj25 t242 t256 t244).bind fun bt269 => (if t257 = true then (if bt269.2 = 0 then (some (bt269.1 == t244)) else (some false)) else (some false))) else (some true))))) = some r := by rw [if_pos rfl] at H; exact H
                  clear H
                  have H := H1
                  clear H1
                  by_cases c40 : t242 = 43
                  · rw [if_pos c40] at H
                    have c40b0 : (t242 == 43) = true := beq_iff_eq.mpr c40
                    have c40b1 : (t242 != 43) = false := bne_eq_false_iff_eq.mpr c40
                    clear c40
                    replace H := Option.bind_eq_some_iff.mp H
                    obtain ⟨⟨t263, t264⟩, A410, H⟩ := H
                    replace H : (if t257 = true then (if t264 = 0 then (some (t263 == t244)) else (some false)) else (some false)) = some r := H
                    have A41 := Aside0.mk A410
                    clear A410
                    by_cases c42 : t257 = true
                    · subst c42
                      have H1 : (if t264 = 0 then (some (t263 == t244)) else (some false)) = some r := by rw [if_pos rfl] at H; exact H
                      clear H
                      have H := H1
                      clear H1
                      by_cases c43 : t264 = 0
                      · rw [if_pos c43] at H
                        have c43b0 : (t264 == 0) = true := beq_iff_eq.mpr c43
                        have c43b1 : (t264 != 0) = false := bne_eq_false_iff_eq.mpr c43
                        clear c43
                        obtain rfl := Option.some.inj H
                        go_wp2_with (first | ((with_reducible refine gate_callee (f := 16) rfl ?_); refine goesL_ (some 114) rfl rfl Try.func16 (by kernel_rfl) rfl #[.int .i64 t244] rfl (by (try simp only [List.map_toArray, List.map_cons, List.map_nil]); first | done | rfl | (simp only [List.length_drop, List.length_take]; rfl)) ?_; (with_reducible refine (impl_NumOk.calls t244 true _ A38.out).mono ?_); rintro e w' ⟨rfl, ⟨nd, rfl⟩⟩; refine ⟨_, rfl, ?_⟩) | ((with_reducible refine gate_callee (f := 12) rfl ?_); refine goesL_ (some 136) rfl rfl Try.func12 (by kernel_rfl) rfl #[.int .i64 t242, .int .i64 t256, .int .i64 t244] rfl (by (try simp only [List.map_toArray, List.map_cons, List.map_nil]); first | done | rfl | (simp only [List.length_drop, List.length_take]; rfl)) ?_; (with_reducible refine (impl_Two.calls kj25 t242 t256 t244 t263 t264 _ A41.out).mono ?_); rintro e w44 ⟨rfl, hb⟩; refine ⟨_, rfl, ?_⟩; have n0_ := Aside0.mk (below_step (by repeat (first | (with_reducible first | exact HB.out | apply below_alloc | apply pw_below_drewN | apply below_drew1) | exact HB.out)) hb); clear HB; have HB := n0_; clear n0_; (try clear hb); (try clear hb2); (try clear hk); (try clear hi)))
                        go_ret
                        exact ⟨by first | rfl | (simp [errW_none, errW_some] <;> rfl) | (simp [*, errW_none, errW_some] <;> rfl), by repeat (first | (with_reducible first | exact HB.out | apply below_alloc | apply pw_below_drewN | apply below_drew1) | exact HB.out)⟩
                      · rw [if_neg c43] at H
                        have c43b0 : (t264 == 0) = false := beq_eq_false_iff_ne.mpr c43
                        have c43b1 : (t264 != 0) = true := bne_iff_ne.mpr c43
                        obtain rfl := Option.some.inj H
                        exact absurd HT.out (by decide)
                    · replace c42 := Bool.eq_false_iff.mpr c42
                      subst c42
                      have H1 : (some false) = some r := by rw [if_neg (show ¬ (false = true) by decide)] at H; exact H
                      clear H
                      have H := H1
                      clear H1
                      obtain rfl := Option.some.inj H
                      exact absurd HT.out (by decide)
                  · rw [if_neg c40] at H
                    have c40b0 : (t242 == 43) = false := beq_eq_false_iff_ne.mpr c40
                    have c40b1 : (t242 != 43) = true := bne_iff_ne.mpr c40
                    by_cases c45 : t242 = 42
                    · rw [if_pos c45] at H
                      have c45b0 : (t242 == 42) = true := beq_iff_eq.mpr c45
                      have c45b1 : (t242 != 42) = false := bne_eq_false_iff_eq.mpr c45
                      clear c45
                      replace H := Option.bind_eq_some_iff.mp H
                      obtain ⟨⟨t265, t266⟩, A460, H⟩ := H
                      replace H : (if t257 = true then (if t266 = 0 then (some (t265 == t244)) else (some false)) else (some false)) = some r := H
                      have A46 := Aside0.mk A460
                      clear A460
                      by_cases c47 : t257 = true
                      · subst c47
                        have H1 : (if t266 = 0 then (some (t265 == t244)) else (some false)) = some r := by rw [if_pos rfl] at H; exact H
                        clear H
                        have H := H1
                        clear H1
                        by_cases c48 : t266 = 0
                        · rw [if_pos c48] at H
                          have c48b0 : (t266 == 0) = true := beq_iff_eq.mpr c48
                          have c48b1 : (t266 != 0) = false := bne_eq_false_iff_eq.mpr c48
                          clear c48
                          obtain rfl := Option.some.inj H
                          go_wp2_with (first | ((with_reducible refine gate_callee (f := 16) rfl ?_); refine goesL_ (some 114) rfl rfl Try.func16 (by kernel_rfl) rfl #[.int .i64 t244] rfl (by (try simp only [List.map_toArray, List.map_cons, List.map_nil]); first | done | rfl | (simp only [List.length_drop, List.length_take]; rfl)) ?_; (with_reducible refine (impl_NumOk.calls t244 true _ A38.out).mono ?_); rintro e w' ⟨rfl, ⟨nd, rfl⟩⟩; refine ⟨_, rfl, ?_⟩) | ((with_reducible refine gate_callee (f := 12) rfl ?_); refine goesL_ (some 136) rfl rfl Try.func12 (by kernel_rfl) rfl #[.int .i64 t242, .int .i64 t256, .int .i64 t244] rfl (by (try simp only [List.map_toArray, List.map_cons, List.map_nil]); first | done | rfl | (simp only [List.length_drop, List.length_take]; rfl)) ?_; (with_reducible refine (impl_Two.calls kj25 t242 t256 t244 t265 t266 _ A46.out).mono ?_); rintro e w49 ⟨rfl, hb⟩; refine ⟨_, rfl, ?_⟩; have n0_ := Aside0.mk (below_step (by repeat (first | (with_reducible first | exact HB.out | apply below_alloc | apply pw_below_drewN | apply below_drew1) | exact HB.out)) hb); clear HB; have HB := n0_; clear n0_; (try clear hb); (try clear hb2); (try clear hk); (try clear hi)))
                          go_ret
                          exact ⟨by first | rfl | (simp [errW_none, errW_some] <;> rfl) | (simp [*, errW_none, errW_some] <;> rfl), by repeat (first | (with_reducible first | exact HB.out | apply below_alloc | apply pw_below_drewN | apply below_drew1) | exact HB.out)⟩
                        · rw [if_neg c48] at H
                          have c48b0 : (t266 == 0) = false := beq_eq_false_iff_ne.mpr c48
                          have c48b1 : (t266 != 0) = true := bne_iff_ne.mpr c48
                          obtain rfl := Option.some.inj H
                          exact absurd HT.out (by decide)
                      · replace c47 := Bool.eq_false_iff.mpr c47
                        subst c47
                        have H1 : (some false) = some r := by rw [if_neg (show ¬ (false = true) by decide)] at H; exact H
                        clear H
                        have H := H1
                        clear H1
                        obtain rfl := Option.some.inj H
                        exact absurd HT.out (by decide)
                    · rw [if_neg c45] at H
                      have c45b0 : (t242 == 42) = false := beq_eq_false_iff_ne.mpr c45
                      have c45b1 : (t242 != 42) = true := bne_iff_ne.mpr c45
                      by_cases c50 : t242 = 38
                      · rw [if_pos c50] at H
                        have c50b0 : (t242 == 38) = true := beq_iff_eq.mpr c50
                        have c50b1 : (t242 != 38) = false := bne_eq_false_iff_eq.mpr c50
                        clear c50
                        replace H := Option.bind_eq_some_iff.mp H
                        obtain ⟨⟨t267, t268⟩, A510, H⟩ := H
                        replace H : (if t257 = true then (if t268 = 0 then (some (t267 == t244)) else (some false)) else (some false)) = some r := H
                        have A51 := Aside0.mk A510
                        clear A510
                        by_cases c52 : t257 = true
                        · subst c52
                          have H1 : (if t268 = 0 then (some (t267 == t244)) else (some false)) = some r := by rw [if_pos rfl] at H; exact H
                          clear H
                          have H := H1
                          clear H1
                          by_cases c53 : t268 = 0
                          · rw [if_pos c53] at H
                            have c53b0 : (t268 == 0) = true := beq_iff_eq.mpr c53
                            have c53b1 : (t268 != 0) = false := bne_eq_false_iff_eq.mpr c53
                            clear c53
                            obtain rfl := Option.some.inj H
                            go_wp2_with (first | ((with_reducible refine gate_callee (f := 16) rfl ?_); refine goesL_ (some 114) rfl rfl Try.func16 (by kernel_rfl) rfl #[.int .i64 t244] rfl (by (try simp only [List.map_toArray, List.map_cons, List.map_nil]); first | done | rfl | (simp only [List.length_drop, List.length_take]; rfl)) ?_; (with_reducible refine (impl_NumOk.calls t244 true _ A38.out).mono ?_); rintro e w' ⟨rfl, ⟨nd, rfl⟩⟩; refine ⟨_, rfl, ?_⟩) | ((with_reducible refine gate_callee (f := 12) rfl ?_); refine goesL_ (some 136) rfl rfl Try.func12 (by kernel_rfl) rfl #[.int .i64 t242, .int .i64 t256, .int .i64 t244] rfl (by (try simp only [List.map_toArray, List.map_cons, List.map_nil]); first | done | rfl | (simp only [List.length_drop, List.length_take]; rfl)) ?_; (with_reducible refine (impl_Two.calls kj25 t242 t256 t244 t267 t268 _ A51.out).mono ?_); rintro e w54 ⟨rfl, hb⟩; refine ⟨_, rfl, ?_⟩; have n0_ := Aside0.mk (below_step (by repeat (first | (with_reducible first | exact HB.out | apply below_alloc | apply pw_below_drewN | apply below_drew1) | exact HB.out)) hb); clear HB; have HB := n0_; clear n0_; (try clear hb); (try clear hb2); (try clear hk); (try clear hi)))
                            go_ret
                            exact ⟨by first | rfl | (simp [errW_none, errW_some] <;> rfl) | (simp [*, errW_none, errW_some] <;> rfl), by repeat (first | (with_reducible first | exact HB.out | apply below_alloc | apply pw_below_drewN | apply below_drew1) | exact HB.out)⟩
                          · rw [if_neg c53] at H
                            have c53b0 : (t268 == 0) = false := beq_eq_false_iff_ne.mpr c53
                            have c53b1 : (t268 != 0) = true := bne_iff_ne.mpr c53
                            obtain rfl := Option.some.inj H
                            exact absurd HT.out (by decide)
                        · replace c52 := Bool.eq_false_iff.mpr c52
                          subst c52
                          have H1 : (some false) = some r := by rw [if_neg (show ¬ (false = true) by decide)] at H; exact H
                          clear H
                          have H := H1
                          clear H1
                          obtain rfl := Option.some.inj H
                          exact absurd HT.out (by decide)
                      · rw [if_neg c50] at H
                        have c50b0 : (t242 == 38) = false := beq_eq_false_iff_ne.mpr c50
                        have c50b1 : (t242 != 38) = true := bne_iff_ne.mpr c50
                        by_cases c55 : t242 = 94
                        · rw [if_pos c55] at H
                          have c55b0 : (t242 == 94) = true := beq_iff_eq.mpr c55
                          have c55b1 : (t242 != 94) = false := bne_eq_false_iff_eq.mpr c55
                          clear c55
                          replace H := Option.bind_eq_some_iff.mp H
                          obtain ⟨⟨t269, t270⟩, A560, H⟩ := H
                          replace H : (if t257 = true then (if t270 = 0 then (some (t269 == t244)) else (some false)) else (some false)) = some r := H
                          have A56 := Aside0.mk A560
                          clear A560
                          by_cases c57 : t257 = true
                          · subst c57
                            have H1 : (if t270 = 0 then (some (t269 == t244)) else (some false)) = some r := by rw [if_pos rfl] at H; exact H
                            clear H
                            have H := H1
                            clear H1
                            by_cases c58 : t270 = 0
                            · rw [if_pos c58] at H
                              have c58b0 : (t270 == 0) = true := beq_iff_eq.mpr c58
                              have c58b1 : (t270 != 0) = false := bne_eq_false_iff_eq.mpr c58
                              clear c58
                              obtain rfl := Option.some.inj H
                              go_wp2_with (first | ((with_reducible refine gate_callee (f := 16) rfl ?_); refine goesL_ (some 114) rfl rfl Try.func16 (by kernel_rfl) rfl #[.int .i64 t244] rfl (by (try simp only [List.map_toArray, List.map_cons, List.map_nil]); first | done | rfl | (simp only [List.length_drop, List.length_take]; rfl)) ?_; (with_reducible refine (impl_NumOk.calls t244 true _ A38.out).mono ?_); rintro e w' ⟨rfl, ⟨nd, rfl⟩⟩; refine ⟨_, rfl, ?_⟩) | ((with_reducible refine gate_callee (f := 12) rfl ?_); refine goesL_ (some 136) rfl rfl Try.func12 (by kernel_rfl) rfl #[.int .i64 t242, .int .i64 t256, .int .i64 t244] rfl (by (try simp only [List.map_toArray, List.map_cons, List.map_nil]); first | done | rfl | (simp only [List.length_drop, List.length_take]; rfl)) ?_; (with_reducible refine (impl_Two.calls kj25 t242 t256 t244 t269 t270 _ A56.out).mono ?_); rintro e w59 ⟨rfl, hb⟩; refine ⟨_, rfl, ?_⟩; have n0_ := Aside0.mk (below_step (by repeat (first | (with_reducible first | exact HB.out | apply below_alloc | apply pw_below_drewN | apply below_drew1) | exact HB.out)) hb); clear HB; have HB := n0_; clear n0_; (try clear hb); (try clear hb2); (try clear hk); (try clear hi)))
                              go_ret
                              exact ⟨by first | rfl | (simp [errW_none, errW_some] <;> rfl) | (simp [*, errW_none, errW_some] <;> rfl), by repeat (first | (with_reducible first | exact HB.out | apply below_alloc | apply pw_below_drewN | apply below_drew1) | exact HB.out)⟩
                            · rw [if_neg c58] at H
                              have c58b0 : (t270 == 0) = false := beq_eq_false_iff_ne.mpr c58
                              have c58b1 : (t270 != 0) = true := bne_iff_ne.mpr c58
                              obtain rfl := Option.some.inj H
                              exact absurd HT.out (by decide)
                          · replace c57 := Bool.eq_false_iff.mpr c57
                            subst c57
                            have H1 : (some false) = some r := by rw [if_neg (show ¬ (false = true) by decide)] at H; exact H
                            clear H
                            have H := H1
                            clear H1
                            obtain rfl := Option.some.inj H
                            exact absurd HT.out (by decide)
                        · rw [if_neg c55] at H
                          have c55b0 : (t242 == 94) = false := beq_eq_false_iff_ne.mpr c55
                          have c55b1 : (t242 != 94) = true := bne_iff_ne.mpr c55
                          obtain rfl := Option.some.inj H
                          go_wp2_with (first | ((with_reducible refine gate_callee (f := 16) rfl ?_); refine goesL_ (some 114) rfl rfl Try.func16 (by kernel_rfl) rfl #[.int .i64 t244] rfl (by (try simp only [List.map_toArray, List.map_cons, List.map_nil]); first | done | rfl | (simp only [List.length_drop, List.length_take]; rfl)) ?_; (with_reducible refine (impl_NumOk.calls t244 true _ A38.out).mono ?_); rintro e w' ⟨rfl, ⟨nd, rfl⟩⟩; refine ⟨_, rfl, ?_⟩))
                          go_ret
                          exact ⟨by first | rfl | (simp [errW_none, errW_some] <;> rfl) | (simp [*, errW_none, errW_some] <;> rfl), by repeat (first | (with_reducible first | exact HB.out | apply below_alloc | apply pw_below_drewN | apply below_drew1) | exact HB.out)⟩
                · replace c39 := Bool.eq_false_iff.mpr c39
                  subst c39
                  have H1 : (some true) = some r := by rw [if_neg (show ¬ (false = true) by decide)] at H; exact H
                  clear H
                  have H := H1
                  clear H1
                  obtain rfl := Option.some.inj H
                  go_wp2_with (first | ((with_reducible refine gate_callee (f := 16) rfl ?_); refine goesL_ (some 114) rfl rfl Try.func16 (by kernel_rfl) rfl #[.int .i64 t244] rfl (by (try simp only [List.map_toArray, List.map_cons, List.map_nil]); first | done | rfl | (simp only [List.length_drop, List.length_take]; rfl)) ?_; (with_reducible refine (impl_NumOk.calls t244 false _ A38.out).mono ?_); rintro e w' ⟨rfl, ⟨nd, rfl⟩⟩; refine ⟨_, rfl, ?_⟩))
                  go_ret
                  exact ⟨by first | rfl | (simp [errW_none, errW_some] <;> rfl) | (simp [*, errW_none, errW_some] <;> rfl), by repeat (first | (with_reducible first | exact HB.out | apply below_alloc | apply pw_below_drewN | apply below_drew1) | exact HB.out)⟩

/-- THE ONE PURE STATEMENT of laws_FnNums: yours. -/
def laws_FnNums.Pure : Prop := ∀ (l0 : List Int), l0.length ≤ maxLen → l0.length * 1 ≤ 140737488351232 → (∀ x ∈ l0, (Lit.int .u8 x).wf = true) → ∃ k, laws_FnNums.f k l0 = some true
theorem laws_FnNums.walk (P : laws_FnNums.Pure) (a0 : Option Addr) (len0 cap0 : Nat) (z0 : List Int) (w : World) (w0 : (a0 = none ∧ len0 = 0 ∧ cap0 = 0 ∧ z0 = []) ∨ ∃ x, a0 = some x ∧ len0 ≤ cap0 ∧ cap0 ≤ maxLen ∧ z0.length = cap0 ∧ (∀ i, i < z0.length → w.cell? (x.add i) = some (.int .u8 (z0.getD i 0))) ∧ ∀ n ∈ z0, (Lit.int .u8 n).wf = true) (y0 : len0 * 1 ≤ 140737488351232) :
    Calls Try.prog 3 #[.slice a0 len0 cap0] w fun e w' => e = .returned (.bool true) ∧ Below w.heap.size w w' := by
  obtain ⟨l0, rfl, hr0, hm0, hw0, hc0⟩ := ReadsInt.ofRowC w0
  obtain ⟨k, h⟩ := P l0 hm0 y0 hw0
  refine (laws_FnNums.calls k _ _ l0 true w (Kd.C_of_reads (d := (0 : Int)) (h1 := fun _ => rfl) hr0) hc0 h rfl).mono ?_
  rintro e w' ⟨rfl, hd⟩
  exact ⟨rfl, hd⟩

end Go.Proofs.Ytlpgopiajkajjaa.PFnNums
