/- The walk of what a law reaches, for the law's row: written by a program of this session; it has no condition of its own. -/
import Derived.Test.YtfcjbdkipcpjcaaPFnOrderx0
import Derived.Test.YtfcjbdkipcpjcaaPFnOrderx1
import Derived.Test.YtfcjbdkipcpjcaaPFnOrderx2
import Derived.Test.YtfcjbdkipcpjcaaPFnOrderx3
namespace Go.Proofs.Ytfcjbdkipcpjcaa.PFnOrder
open Go.RowKit Go.Proofs.YtfcjbdkipcpjcaaW.PrintWords Go.Proofs.YtfcjbdkipcpjcaaW.PrintLast Go.Proofs.YtfcjbdkipcpjcaaW.PrintMore
attribute [local go_sem] max2_int min2_int max_two min_two max_three min_three max_four min_four   -- for this text's walks alone
set_option linter.unusedVariables false
set_option linter.unusedSimpArgs false

/-! ### laws_FnOrder: function 11 -/
mutual
def laws_FnOrder.j0 : Nat → List Int → Int → List Int → List Int → Int → Bool → Option (Bool)
  | 0, _, _, _, _, _, _ => none
  | k + 1, x3, x4, x5, x6, x7, x37 => if x37 = true then (some false) else (if x4 < 0 then (laws_FnOrder.j1 k x3 x4 x5 x6 true) else (laws_FnOrder.j1 k x3 x4 x5 x6 (decide ((wrap64 (x4 + 1)) ≥ x7))))
def laws_FnOrder.j1 : Nat → List Int → Int → List Int → List Int → Bool → Option (Bool)
  | 0, _, _, _, _, _ => none
  | k + 1, x3, x4, x5, x6, x45 => if x45 = true then (if x4 < 0 then (some true) else (some ((x6.length : Int) == 0))) else (laws_FnOrder.l0 k x3 x5 x6 (wrap64 ((x3.length : Int) - 1)))
def laws_FnOrder.l0 : Nat → List Int → List Int → List Int → Int → Option (Bool)
  | 0, _, _, _, _ => none
  | k + 1, x3, x5, x6, x8 => if x8 ≥ 0 then (if 0 ≤ x8 then (if x8 < (x5.length : Int) then (if x8 < (x3.length : Int) then (laws_FnOrder.j3 k x3 x5 x6 x8 ((rd x5 x8) == (wrap64 ((rd x3 x8) - 1)))) else (none)) else (none)) else (none)) else (laws_FnOrder.j3 k x3 x5 x6 x8 false)
def laws_FnOrder.j3 : Nat → List Int → List Int → List Int → Int → Bool → Option (Bool)
  | 0, _, _, _, _, _ => none
  | k + 1, x3, x5, x6, x8, x69 => if x69 = true then (if 0 ≤ x8 then (if x8 < (x6.length : Int) then (if (rd x6 x8) = 0 then (laws_FnOrder.l0 k x3 x5 x6 (wrap64 (x8 - 1))) else (some false)) else (none)) else (none)) else (if x8 < 0 then (laws_FnOrder.j4 k x5 x6 x8 true) else (if 0 ≤ x8 then (if x8 < (x6.length : Int) then (if x8 < (x5.length : Int) then (laws_FnOrder.j4 k x5 x6 x8 ((rd x6 x8) != (wrap64 ((rd x5 x8) + 1)))) else (none)) else (none)) else (none)))
def laws_FnOrder.j4 : Nat → List Int → List Int → Int → Bool → Option (Bool)
  | 0, _, _, _, _ => none
  | k + 1, x5, x6, x8, x90 => if x90 = true then (some false) else (laws_FnOrder.l1 k x5 x6 x8 0)
def laws_FnOrder.l1 : Nat → List Int → List Int → Int → Int → Option (Bool)
  | 0, _, _, _, _ => none
  | k + 1, x5, x6, x8, x9 => if x9 < x8 then (if 0 ≤ x9 then (if x9 < (x5.length : Int) then (if x9 < (x6.length : Int) then (if (rd x5 x9) = (rd x6 x9) then (laws_FnOrder.l1 k x5 x6 x8 (wrap64 (x9 + 1))) else (some false)) else (none)) else (none)) else (none)) else (some true)
end
def laws_FnOrder.f (k : Nat) (l0 : List Int) : Option (Bool) := (laws_big.f l0).bind fun t237 => (if t237 = true then (some true) else ((spec_DrawIndexOf.f k l0).bind fun bt238 => ((impl_IndexOf.f k bt238.1 bt238.2).bind fun t242 => ((impl_IndexOf.f k bt238.1 (wrap64 (bt238.2 + 1))).bind fun t245 => ((impl_SizeOf.f k bt238.1).bind fun t248 => ((spec_SizeOf.f k bt238.1).bind fun t249 => (if t248 = t249 then ((spec_IndexOf.f k bt238.1 bt238.2).bind fun t250 => ((laws_sameInts.f k t242 t250).bind fun t253 => (laws_FnOrder.j0 k bt238.1 bt238.2 t242 t245 t248 (!t253)))) else (laws_FnOrder.j0 k bt238.1 bt238.2 t242 t245 t248 true))))))))
theorem laws_FnOrder.mono_l : ∀ k, (∀ y0 y1 y2 y3 y4 y5, LeO (laws_FnOrder.j0 k y0 y1 y2 y3 y4 y5) (laws_FnOrder.j0 (k + 1) y0 y1 y2 y3 y4 y5)) ∧ (∀ y0 y1 y2 y3 y4, LeO (laws_FnOrder.j1 k y0 y1 y2 y3 y4) (laws_FnOrder.j1 (k + 1) y0 y1 y2 y3 y4)) ∧ (∀ y0 y1 y2 y3, LeO (laws_FnOrder.l0 k y0 y1 y2 y3) (laws_FnOrder.l0 (k + 1) y0 y1 y2 y3)) ∧ (∀ y0 y1 y2 y3 y4, LeO (laws_FnOrder.j3 k y0 y1 y2 y3 y4) (laws_FnOrder.j3 (k + 1) y0 y1 y2 y3 y4)) ∧ (∀ y0 y1 y2 y3, LeO (laws_FnOrder.j4 k y0 y1 y2 y3) (laws_FnOrder.j4 (k + 1) y0 y1 y2 y3)) ∧ (∀ y0 y1 y2 y3, LeO (laws_FnOrder.l1 k y0 y1 y2 y3) (laws_FnOrder.l1 (k + 1) y0 y1 y2 y3))
  | 0 => ⟨fun _ _ _ _ _ _ r h => by simp [laws_FnOrder.j0] at h, fun _ _ _ _ _ r h => by simp [laws_FnOrder.j1] at h, fun _ _ _ _ r h => by simp [laws_FnOrder.l0] at h, fun _ _ _ _ _ r h => by simp [laws_FnOrder.j3] at h, fun _ _ _ _ r h => by simp [laws_FnOrder.j4] at h, fun _ _ _ _ r h => by simp [laws_FnOrder.l1] at h⟩
  | k + 1 => by
    obtain ⟨ih0, ih1, ih2, ih3, ih4, ih5⟩ := laws_FnOrder.mono_l k
    refine ⟨?_, ?_, ?_, ?_, ?_, ?_⟩
    · intro y0 y1 y2 y3 y4 y5
      unfold laws_FnOrder.j0
      repeat' first
      | (with_reducible exact ih0 _ _ _ _ _ _)
      | (with_reducible exact ih1 _ _ _ _ _)
      | (with_reducible exact ih2 _ _ _ _)
      | (with_reducible exact ih3 _ _ _ _ _)
      | (with_reducible exact ih4 _ _ _ _)
      | (with_reducible exact ih5 _ _ _ _)
      | (with_reducible exact impl_IndexOf.mono _ _ _)
      | (with_reducible exact impl_SizeOf.mono _ _)
      | (with_reducible exact laws_sameInts.mono _ _ _)
      | (with_reducible exact spec_DrawIndexOf.mono _ _)
      | (with_reducible exact spec_IndexOf.mono _ _ _)
      | (with_reducible exact spec_SizeOf.mono _ _)
      | (with_reducible exact LeO.refl _)
      | (with_reducible exact LeO.none _)
      | (with_reducible refine LeO.ite ?_ ?_)
      | (with_reducible refine LeO.bind ?_ (fun _ => ?_))
      | exact ih0 _ _ _ _ _ _
      | exact ih1 _ _ _ _ _
      | exact ih2 _ _ _ _
      | exact ih3 _ _ _ _ _
      | exact ih4 _ _ _ _
      | exact ih5 _ _ _ _
      | exact impl_IndexOf.mono _ _ _
      | exact impl_SizeOf.mono _ _
      | exact laws_sameInts.mono _ _ _
      | exact spec_DrawIndexOf.mono _ _
      | exact spec_IndexOf.mono _ _ _
      | exact spec_SizeOf.mono _ _
      | exact LeO.none _
      | refine LeO.ite ?_ ?_
      | refine LeO.bind ?_ (fun _ => ?_)
    · intro y0 y1 y2 y3 y4
      unfold laws_FnOrder.j1
      repeat' first
      | (with_reducible exact ih0 _ _ _ _ _ _)
      | (with_reducible exact ih1 _ _ _ _ _)
      | (with_reducible exact ih2 _ _ _ _)
      | (with_reducible exact ih3 _ _ _ _ _)
      | (with_reducible exact ih4 _ _ _ _)
      | (with_reducible exact ih5 _ _ _ _)
      | (with_reducible exact impl_IndexOf.mono _ _ _)
      | (with_reducible exact impl_SizeOf.mono _ _)
      | (with_reducible exact laws_sameInts.mono _ _ _)
      | (with_reducible exact spec_DrawIndexOf.mono _ _)
      | (with_reducible exact spec_IndexOf.mono _ _ _)
      | (with_reducible exact spec_SizeOf.mono _ _)
      | (with_reducible exact LeO.refl _)
      | (with_reducible exact LeO.none _)
      | (with_reducible refine LeO.ite ?_ ?_)
      | (with_reducible refine LeO.bind ?_ (fun _ => ?_))
      | exact ih0 _ _ _ _ _ _
      | exact ih1 _ _ _ _ _
      | exact ih2 _ _ _ _
      | exact ih3 _ _ _ _ _
      | exact ih4 _ _ _ _
      | exact ih5 _ _ _ _
      | exact impl_IndexOf.mono _ _ _
      | exact impl_SizeOf.mono _ _
      | exact laws_sameInts.mono _ _ _
      | exact spec_DrawIndexOf.mono _ _
      | exact spec_IndexOf.mono _ _ _
      | exact spec_SizeOf.mono _ _
      | exact LeO.none _
      | refine LeO.ite ?_ ?_
      | refine LeO.bind ?_ (fun _ => ?_)
    · intro y0 y1 y2 y3
      unfold laws_FnOrder.l0
      repeat' first
      | (with_reducible exact ih0 _ _ _ _ _ _)
      | (with_reducible exact ih1 _ _ _ _ _)
      | (with_reducible exact ih2 _ _ _ _)
      | (with_reducible exact ih3 _ _ _ _ _)
      | (with_reducible exact ih4 _ _ _ _)
      | (with_reducible exact ih5 _ _ _ _)
      | (with_reducible exact impl_IndexOf.mono _ _ _)
      | (with_reducible exact impl_SizeOf.mono _ _)
      | (with_reducible exact laws_sameInts.mono _ _ _)
      | (with_reducible exact spec_DrawIndexOf.mono _ _)
      | (with_reducible exact spec_IndexOf.mono _ _ _)
      | (with_reducible exact spec_SizeOf.mono _ _)
      | (with_reducible exact LeO.refl _)
      | (with_reducible exact LeO.none _)
      | (with_reducible refine LeO.ite ?_ ?_)
      | (with_reducible refine LeO.bind ?_ (fun _ => ?_))
      | exact ih0 _ _ _ _ _ _
      | exact ih1 _ _ _ _ _
      | exact ih2 _ _ _ _
      | exact ih3 _ _ _ _ _
      | exact ih4 _ _ _ _
      | exact ih5 _ _ _ _
      | exact impl_IndexOf.mono _ _ _
      | exact impl_SizeOf.mono _ _
      | exact laws_sameInts.mono _ _ _
      | exact spec_DrawIndexOf.mono _ _
      | exact spec_IndexOf.mono _ _ _
      | exact spec_SizeOf.mono _ _
      | exact LeO.none _
      | refine LeO.ite ?_ ?_
      | refine LeO.bind ?_ (fun _ => ?_)
    · intro y0 y1 y2 y3 y4
      unfold laws_FnOrder.j3
      repeat' first
      | (with_reducible exact ih0 _ _ _ _ _ _)
      | (with_reducible exact ih1 _ _ _ _ _)
      | (with_reducible exact ih2 _ _ _ _)
      | (with_reducible exact ih3 _ _ _ _ _)
      | (with_reducible exact ih4 _ _ _ _)
      | (with_reducible exact ih5 _ _ _ _)
      | (with_reducible exact impl_IndexOf.mono _ _ _)
      | (with_reducible exact impl_SizeOf.mono _ _)
      | (with_reducible exact laws_sameInts.mono _ _ _)
      | (with_reducible exact spec_DrawIndexOf.mono _ _)
      | (with_reducible exact spec_IndexOf.mono _ _ _)
      | (with_reducible exact spec_SizeOf.mono _ _)
      | (with_reducible exact LeO.refl _)
      | (with_reducible exact LeO.none _)
      | (with_reducible refine LeO.ite ?_ ?_)
      | (with_reducible refine LeO.bind ?_ (fun _ => ?_))
      | exact ih0 _ _ _ _ _ _
      | exact ih1 _ _ _ _ _
      | exact ih2 _ _ _ _
      | exact ih3 _ _ _ _ _
      | exact ih4 _ _ _ _
      | exact ih5 _ _ _ _
      | exact impl_IndexOf.mono _ _ _
      | exact impl_SizeOf.mono _ _
      | exact laws_sameInts.mono _ _ _
      | exact spec_DrawIndexOf.mono _ _
      | exact spec_IndexOf.mono _ _ _
      | exact spec_SizeOf.mono _ _
      | exact LeO.none _
      | refine LeO.ite ?_ ?_
      | refine LeO.bind ?_ (fun _ => ?_)
    · intro y0 y1 y2 y3
      unfold laws_FnOrder.j4
      repeat' first
      | (with_reducible exact ih0 _ _ _ _ _ _)
      | (with_reducible exact ih1 _ _ _ _ _)
      | (with_reducible exact ih2 _ _ _ _)
      | (with_reducible exact ih3 _ _ _ _ _)
      | (with_reducible exact ih4 _ _ _ _)
      | (with_reducible exact ih5 _ _ _ _)
      | (with_reducible exact impl_IndexOf.mono _ _ _)
      | (with_reducible exact impl_SizeOf.mono _ _)
      | (with_reducible exact laws_sameInts.mono _ _ _)
      | (with_reducible exact spec_DrawIndexOf.mono _ _)
      | (with_reducible exact spec_IndexOf.mono _ _ _)
      | (with_reducible exact spec_SizeOf.mono _ _)
      | (with_reducible exact LeO.refl _)
      | (with_reducible exact LeO.none _)
      | (with_reducible refine LeO.ite ?_ ?_)
      | (with_reducible refine LeO.bind ?_ (fun _ => ?_))
      | exact ih0 _ _ _ _ _ _
      | exact ih1 _ _ _ _ _
      | exact ih2 _ _ _ _
      | exact ih3 _ _ _ _ _
      | exact ih4 _ _ _ _
      | exact ih5 _ _ _ _
      | exact impl_IndexOf.mono _ _ _
      | exact impl_SizeOf.mono _ _
      | exact laws_sameInts.mono _ _ _
      | exact spec_DrawIndexOf.mono _ _
      | exact spec_IndexOf.mono _ _ _
      | exact spec_SizeOf.mono _ _
      | exact LeO.none _
      | refine LeO.ite ?_ ?_
      | refine LeO.bind ?_ (fun _ => ?_)
    · intro y0 y1 y2 y3
      unfold laws_FnOrder.l1
      repeat' first
      | (with_reducible exact ih0 _ _ _ _ _ _)
      | (with_reducible exact ih1 _ _ _ _ _)
      | (with_reducible exact ih2 _ _ _ _)
      | (with_reducible exact ih3 _ _ _ _ _)
      | (with_reducible exact ih4 _ _ _ _)
      | (with_reducible exact ih5 _ _ _ _)
      | (with_reducible exact impl_IndexOf.mono _ _ _)
      | (with_reducible exact impl_SizeOf.mono _ _)
      | (with_reducible exact laws_sameInts.mono _ _ _)
      | (with_reducible exact spec_DrawIndexOf.mono _ _)
      | (with_reducible exact spec_IndexOf.mono _ _ _)
      | (with_reducible exact spec_SizeOf.mono _ _)
      | (with_reducible exact LeO.refl _)
      | (with_reducible exact LeO.none _)
      | (with_reducible refine LeO.ite ?_ ?_)
      | (with_reducible refine LeO.bind ?_ (fun _ => ?_))
      | exact ih0 _ _ _ _ _ _
      | exact ih1 _ _ _ _ _
      | exact ih2 _ _ _ _
      | exact ih3 _ _ _ _ _
      | exact ih4 _ _ _ _
      | exact ih5 _ _ _ _
      | exact impl_IndexOf.mono _ _ _
      | exact impl_SizeOf.mono _ _
      | exact laws_sameInts.mono _ _ _
      | exact spec_DrawIndexOf.mono _ _
      | exact spec_IndexOf.mono _ _ _
      | exact spec_SizeOf.mono _ _
      | exact LeO.none _
      | refine LeO.ite ?_ ?_
      | refine LeO.bind ?_ (fun _ => ?_)
theorem laws_FnOrder.mono : ∀ a0 k, LeO (laws_FnOrder.f k a0) (laws_FnOrder.f (k + 1) a0) := by
  intro a0 k
  obtain ⟨ih0, ih1, ih2, ih3, ih4, ih5⟩ := laws_FnOrder.mono_l k
  unfold laws_FnOrder.f
  repeat' first
      | (with_reducible exact ih0 _ _ _ _ _ _)
      | (with_reducible exact ih1 _ _ _ _ _)
      | (with_reducible exact ih2 _ _ _ _)
      | (with_reducible exact ih3 _ _ _ _ _)
      | (with_reducible exact ih4 _ _ _ _)
      | (with_reducible exact ih5 _ _ _ _)
      | (with_reducible exact impl_IndexOf.mono _ _ _)
      | (with_reducible exact impl_SizeOf.mono _ _)
      | (with_reducible exact laws_sameInts.mono _ _ _)
      | (with_reducible exact spec_DrawIndexOf.mono _ _)
      | (with_reducible exact spec_IndexOf.mono _ _ _)
      | (with_reducible exact spec_SizeOf.mono _ _)
      | (with_reducible exact LeO.refl _)
      | (with_reducible exact LeO.none _)
      | (with_reducible refine LeO.ite ?_ ?_)
      | (with_reducible refine LeO.bind ?_ (fun _ => ?_))
      | exact ih0 _ _ _ _ _ _
      | exact ih1 _ _ _ _ _
      | exact ih2 _ _ _ _
      | exact ih3 _ _ _ _ _
      | exact ih4 _ _ _ _
      | exact ih5 _ _ _ _
      | exact impl_IndexOf.mono _ _ _
      | exact impl_SizeOf.mono _ _
      | exact laws_sameInts.mono _ _ _
      | exact spec_DrawIndexOf.mono _ _
      | exact spec_IndexOf.mono _ _ _
      | exact spec_SizeOf.mono _ _
      | exact LeO.none _
      | refine LeO.ite ?_ ?_
      | refine LeO.bind ?_ (fun _ => ?_)
set_option maxHeartbeats 8000000 in
set_option maxRecDepth 100000 in
theorem laws_FnOrder.calls (k : Nat) (A0 : Option Addr) (c0 : Nat) (l0 : List Int) (r : Bool) (w : World) (hr0 : Kd.C (Kd.int .u8) w A0 l0.length l0) (hc0 : l0.length ≤ c0) (h : laws_FnOrder.f k l0 = some r) (hT : r = true) :
    Calls Try.prog 11 #[.slice A0 l0.length c0] w fun e w' => e = .returned (.bool r) ∧ Below w.heap.size w w' := by
  have HT := Aside0.mk hT
  clear hT
  have HR0 := Aside0.mk hr0
  have HC0 := Aside0.mk hc0
  clear hr0 hc0
  have HB := Aside0.mk (Below.refl w.heap.size w)
  have H : ((laws_big.f l0).bind fun t237 => (if t237 = true then (some true) else ((spec_DrawIndexOf.f k l0).bind fun bt238 => ((impl_IndexOf.f k bt238.1 bt238.2).bind fun t242 => ((impl_IndexOf.f k bt238.1 (wrap64 (bt238.2 + 1))).bind fun t245 => ((impl_SizeOf.f k bt238.1).bind fun t248 => ((spec_SizeOf.f k bt238.1).bind fun t249 => (if t248 = t249 then ((spec_IndexOf.f k bt238.1 bt238.2).bind fun t250 => ((laws_sameInts.f k t242 t250).bind fun t253 => (laws_FnOrder.j0 k bt238.1 bt238.2 t242 t245 t248 (!t253)))) else (laws_FnOrder.j0 k bt238.1 bt238.2 t242 t245 t248 true))))))))) = some r := h
  clear h
  replace H := Option.bind_eq_some_iff.mp H
  obtain ⟨t237, A20, H⟩ := H
  replace H : (if t237 = true then (some true) else ((spec_DrawIndexOf.f k l0).bind fun bt238 => ((impl_IndexOf.f k bt238.1 bt238.2).bind fun t242 => ((impl_IndexOf.f k bt238.1 (wrap64 (bt238.2 + 1))).bind fun t245 => ((impl_SizeOf.f k bt238.1).bind fun t248 => ((spec_SizeOf.f k bt238.1).bind fun t249 => (if t248 = t249 then ((spec_IndexOf.f k bt238.1 bt238.2).bind fun t250 => ((laws_sameInts.f k t242 t250).bind fun t253 => (laws_FnOrder.j0 k bt238.1 bt238.2 t242 t245 t248 (!t253)))) else (laws_FnOrder.j0 k bt238.1 bt238.2 t242 t245 t248 true)))))))) = some r := H
  have A2 := Aside0.mk A20
  clear A20
  by_cases c3 : t237 = true
  · subst c3
    have H1 : (some true) = some r := by rw [if_pos rfl] at H; exact H
    clear H
    have H := H1
    clear H1
    obtain rfl := Option.some.inj H
    go_enter Try.func11, Try.ntmps11
    go_wp2_with (first | (go_at_call 15; (repeat rw [i64_w]); (with_reducible refine (laws_big.calls _ _ l0 true _ ?side1 ?side2 A2.out).mono ?_); (case side1 => repeat (first | exact HR0.out | (with_reducible refine Kd.C_alloc ?_ _) | (with_reducible refine Kd.C_drewN ?_ _) | (with_reducible refine Kd.C_drew ?_))); (case side2 => exact HC0.out); rintro e w' ⟨rfl, ⟨nd, rfl⟩⟩; (try first | exact ⟨rfl, _, World.drewN_drewN _ _ _⟩ | exact ⟨rfl, _, Eq.trans (World.drewN_drewN _ _ _) (congrArg (World.drewN _) (Nat.add_assoc _ _ _))⟩)))
    repeat (go_quiet ((go_at_call 15; (repeat rw [i64_w]); (with_reducible refine (laws_big.calls _ _ l0 true _ ?side1 ?side2 A2.out).mono ?_); (case side1 => repeat (first | exact HR0.out | (with_reducible refine Kd.C_alloc ?_ _) | (with_reducible refine Kd.C_drewN ?_ _) | (with_reducible refine Kd.C_drew ?_))); (case side2 => exact HC0.out); rintro e w' ⟨rfl, ⟨nd, rfl⟩⟩; (try first | exact ⟨rfl, _, World.drewN_drewN _ _ _⟩ | exact ⟨rfl, _, Eq.trans (World.drewN_drewN _ _ _) (congrArg (World.drewN _) (Nat.add_assoc _ _ _))⟩))); try go_wp2_with (first | (go_at_call 15; (repeat rw [i64_w]); (with_reducible refine (laws_big.calls _ _ l0 true _ ?side1 ?side2 A2.out).mono ?_); (case side1 => repeat (first | exact HR0.out | (with_reducible refine Kd.C_alloc ?_ _) | (with_reducible refine Kd.C_drewN ?_ _) | (with_reducible refine Kd.C_drew ?_))); (case side2 => exact HC0.out); rintro e w' ⟨rfl, ⟨nd, rfl⟩⟩; (try first | exact ⟨rfl, _, World.drewN_drewN _ _ _⟩ | exact ⟨rfl, _, Eq.trans (World.drewN_drewN _ _ _) (congrArg (World.drewN _) (Nat.add_assoc _ _ _))⟩))))
    go_ret
    exact ⟨by first | rfl | (simp [errW_none, errW_some] <;> rfl) | (simp [*, errW_none, errW_some] <;> rfl), by repeat (first | (with_reducible first | exact HB.out | apply below_alloc | apply pw_below_drewN | apply below_drew1) | exact HB.out)⟩
  · replace c3 := Bool.eq_false_iff.mpr c3
    subst c3
    have H1 : ((spec_DrawIndexOf.f k l0).bind fun bt238 => ((impl_IndexOf.f k bt238.1 bt238.2).bind fun t242 => ((impl_IndexOf.f k bt238.1 (wrap64 (bt238.2 + 1))).bind fun t245 => ((impl_SizeOf.f k bt238.1).bind fun t248 => ((spec_SizeOf.f k bt238.1).bind fun t249 => (if t248 = t249 then ((spec_IndexOf.f k bt238.1 bt238.2).bind fun t250 => ((laws_sameInts.f k t242 t250).bind fun t253 => (laws_FnOrder.j0 k bt238.1 bt238.2 t242 t245 t248 (!t253)))) else (laws_FnOrder.j0 k bt238.1 bt238.2 t242 t245 t248 true))))))) = some r := by rw [if_neg (show ¬ (false = true) by decide)] at H; exact H
    clear H
    have H := H1
    clear H1
    replace H := Option.bind_eq_some_iff.mp H
    obtain ⟨⟨t238, t239⟩, A40, H⟩ := H
    replace H : ((impl_IndexOf.f k t238 t239).bind fun t242 => ((impl_IndexOf.f k t238 (wrap64 (t239 + 1))).bind fun t245 => ((impl_SizeOf.f k t238).bind fun t248 => ((spec_SizeOf.f k t238).bind fun t249 => (if t248 = t249 then ((spec_IndexOf.f k t238 t239).bind fun t250 => ((laws_sameInts.f k t242 t250).bind fun t253 => (laws_FnOrder.j0 k t238 t239 t242 t245 t248 (!t253)))) else (laws_FnOrder.j0 k t238 t239 t242 t245 t248 true)))))) = some r := H
    have A4 := Aside0.mk A40
    clear A40
    replace H := Option.bind_eq_some_iff.mp H
    obtain ⟨t242, A50, H⟩ := H
    replace H : ((impl_IndexOf.f k t238 (wrap64 (t239 + 1))).bind fun t245 => ((impl_SizeOf.f k t238).bind fun t248 => ((spec_SizeOf.f k t238).bind fun t249 => (if t248 = t249 then ((spec_IndexOf.f k t238 t239).bind fun t250 => ((laws_sameInts.f k t242 t250).bind fun t253 => (laws_FnOrder.j0 k t238 t239 t242 t245 t248 (!t253)))) else (laws_FnOrder.j0 k t238 t239 t242 t245 t248 true))))) = some r := H
    have A5 := Aside0.mk A50
    clear A50
    replace H := Option.bind_eq_some_iff.mp H
    obtain ⟨t245, A60, H⟩ := H
    replace H : ((impl_SizeOf.f k t238).bind fun t248 => ((spec_SizeOf.f k t238).bind fun t249 => (if t248 = t249 then ((spec_IndexOf.f k t238 t239).bind fun t250 => ((laws_sameInts.f k t242 t250).bind fun t253 => (laws_FnOrder.j0 k t238 t239 t242 t245 t248 (!t253)))) else (laws_FnOrder.j0 k t238 t239 t242 t245 t248 true)))) = some r := H
    have A6 := Aside0.mk A60
    clear A60
    replace H := Option.bind_eq_some_iff.mp H
    obtain ⟨t248, A70, H⟩ := H
    replace H : ((spec_SizeOf.f k t238).bind fun t249 => (if t248 = t249 then ((spec_IndexOf.f k t238 t239).bind fun t250 => ((laws_sameInts.f k t242 t250).bind fun t253 => (laws_FnOrder.j0 k t238 t239 t242 t245 t248 (!t253)))) else (laws_FnOrder.j0 k t238 t239 t242 t245 t248 true))) = some r := H
    have A7 := Aside0.mk A70
    clear A70
    have HC8 := Aside0.mk H
    clear H
    go_enter Try.func11, Try.ntmps11
    go_upto_region 7 with (first | (go_at_call 15; (repeat rw [i64_w]); (with_reducible refine (laws_big.calls _ _ l0 false _ ?side1 ?side2 A2.out).mono ?_); (case side1 => repeat (first | exact HR0.out | (with_reducible refine Kd.C_alloc ?_ _) | (with_reducible refine Kd.C_drewN ?_ _) | (with_reducible refine Kd.C_drew ?_))); (case side2 => exact HC0.out); rintro e w' ⟨rfl, ⟨nd, rfl⟩⟩; (try first | exact ⟨rfl, _, World.drewN_drewN _ _ _⟩ | exact ⟨rfl, _, Eq.trans (World.drewN_drewN _ _ _) (congrArg (World.drewN _) (Nat.add_assoc _ _ _))⟩)) | (go_at_call 45; (repeat rw [i64_w]); (with_reducible refine (spec_DrawIndexOf.calls k _ _ l0 t238 t239 _ ?side1 ?side2 A4.out).mono ?_); (case side1 => repeat (first | exact HR0.out | (with_reducible refine Kd.C_alloc ?_ _) | (with_reducible refine Kd.C_drewN ?_ _) | (with_reducible refine Kd.C_drew ?_))); (case side2 => exact HC0.out); rintro e w9 ⟨v240, rfl, ho0, hb⟩; have n0_ := Aside0.mk (Kd.R_lower ho0 (below_size (by repeat (first | (with_reducible first | exact HB.out | apply below_alloc | apply pw_below_drewN | apply below_drew1) | exact HB.out)))); have n1_ := Aside0.mk (below_step (by repeat (first | (with_reducible first | exact HB.out | apply below_alloc | apply pw_below_drewN | apply below_drew1) | exact HB.out)) hb); clear HB; have HO241 := n0_; have HB := n1_; clear n0_ n1_; (try clear hb); (try clear hb2); (try clear hk); (try clear hi); (try clear ho0); obtain ⟨Ao10, co10, eo10⟩ := Kd.R_slice HO241.out; subst eo10) | (go_at_call 36; (repeat rw [i64_w]); (with_reducible refine (impl_IndexOf.calls k _ _ t238 t239 t242 _ ?side1 ?side2 A5.out).mono ?_); (case side1 => repeat (first | exact (Kd.R_reads' HO241.out).2.2 | (with_reducible refine Kd.C_alloc ?_ _) | (with_reducible refine Kd.C_drewN ?_ _) | (with_reducible refine Kd.C_drew ?_))); (case side2 => exact (Kd.R_reads' HO241.out).2.1); rintro e w11 ⟨v243, rfl, ho0, hb⟩; have n0_ := Aside0.mk (Kd.R_elder' (by (with_reducible repeat (first | apply Kd.R_alloc | apply Kd.R_drewN | apply Kd.R_drew)); exact HO241.out) (Kd.R_base ho0) hb); have n1_ := Aside0.mk (Kd.R_lower (Kd.R_new' ho0 (Kd.R_lt (by (with_reducible repeat (first | apply Kd.R_alloc | apply Kd.R_drewN | apply Kd.R_drew)); exact HO241.out))) (below_size (by repeat (first | (with_reducible first | exact HB.out | apply below_alloc | apply pw_below_drewN | apply below_drew1) | exact HB.out)))); have n2_ := Aside0.mk (below_step (by repeat (first | (with_reducible first | exact HB.out | apply below_alloc | apply pw_below_drewN | apply below_drew1) | exact HB.out)) hb); clear HO241; clear HB; have HO241 := n0_; have HO244 := n1_; have HB := n2_; clear n0_ n1_ n2_; (try clear hb); (try clear hb2); (try clear hk); (try clear hi); (try clear ho0)) | (go_at_call 36; (repeat rw [i64_w]); (with_reducible refine (impl_IndexOf.calls k _ _ t238 (wrap64 (t239 + 1)) t245 _ ?side1 ?side2 A6.out).mono ?_); (case side1 => repeat (first | exact (Kd.R_reads' HO241.out).2.2 | (with_reducible refine Kd.C_alloc ?_ _) | (with_reducible refine Kd.C_drewN ?_ _) | (with_reducible refine Kd.C_drew ?_))); (case side2 => exact (Kd.R_reads' HO241.out).2.1); rintro e w12 ⟨v246, rfl, ho0, hb⟩; have n0_ := Aside0.mk (Kd.R_elder' (by (with_reducible repeat (first | apply Kd.R_alloc | apply Kd.R_drewN | apply Kd.R_drew)); exact HO241.out) (Kd.R_base ho0) hb); have n1_ := Aside0.mk (Kd.R_elder' (by (with_reducible repeat (first | apply Kd.R_alloc | apply Kd.R_drewN | apply Kd.R_drew)); exact HO244.out) (Kd.R_base ho0) hb); have n2_ := Aside0.mk (Kd.R_lower (Kd.R_new' (Kd.R_new' ho0 (Kd.R_lt (by (with_reducible repeat (first | apply Kd.R_alloc | apply Kd.R_drewN | apply Kd.R_drew)); exact HO241.out))) (Kd.R_lt (by (with_reducible repeat (first | apply Kd.R_alloc | apply Kd.R_drewN | apply Kd.R_drew)); exact HO244.out))) (below_size (by repeat (first | (with_reducible first | exact HB.out | apply below_alloc | apply pw_below_drewN | apply below_drew1) | exact HB.out)))); have n3_ := Aside0.mk (below_step (by repeat (first | (with_reducible first | exact HB.out | apply below_alloc | apply pw_below_drewN | apply below_drew1) | exact HB.out)) hb); clear HO241; clear HO244; clear HB; have HO241 := n0_; have HO244 := n1_; have HO247 := n2_; have HB := n3_; clear n0_ n1_ n2_ n3_; (try clear hb); (try clear hb2); (try clear hk); (try clear hi); (try clear ho0)) | (go_at_call 46; (repeat rw [i64_w]); (with_reducible refine (impl_SizeOf.calls k _ _ t238 t248 _ ?side1 ?side2 A7.out).mono ?_); (case side1 => repeat (first | exact (Kd.R_reads' HO241.out).2.2 | (with_reducible refine Kd.C_alloc ?_ _) | (with_reducible refine Kd.C_drewN ?_ _) | (with_reducible refine Kd.C_drew ?_))); (case side2 => exact (Kd.R_reads' HO241.out).2.1); rintro e w' ⟨rfl, ⟨nd, rfl⟩⟩; (try first | exact ⟨rfl, _, World.drewN_drewN _ _ _⟩ | exact ⟨rfl, _, Eq.trans (World.drewN_drewN _ _ _) (congrArg (World.drewN _) (Nat.add_assoc _ _ _))⟩)))
    repeat (go_quiet (first | (go_at_call 15; (repeat rw [i64_w]); (with_reducible refine (laws_big.calls _ _ l0 false _ ?side1 ?side2 A2.out).mono ?_); (case side1 => repeat (first | exact HR0.out | (with_reducible refine Kd.C_alloc ?_ _) | (with_reducible refine Kd.C_drewN ?_ _) | (with_reducible refine Kd.C_drew ?_))); (case side2 => exact HC0.out); rintro e w' ⟨rfl, ⟨nd, rfl⟩⟩; (try first | exact ⟨rfl, _, World.drewN_drewN _ _ _⟩ | exact ⟨rfl, _, Eq.trans (World.drewN_drewN _ _ _) (congrArg (World.drewN _) (Nat.add_assoc _ _ _))⟩)) | (go_at_call 46; (repeat rw [i64_w]); (with_reducible refine (impl_SizeOf.calls k _ _ t238 t248 _ ?side1 ?side2 A7.out).mono ?_); (case side1 => repeat (first | exact (Kd.R_reads' HO241.out).2.2 | (with_reducible refine Kd.C_alloc ?_ _) | (with_reducible refine Kd.C_drewN ?_ _) | (with_reducible refine Kd.C_drew ?_))); (case side2 => exact (Kd.R_reads' HO241.out).2.1); rintro e w' ⟨rfl, ⟨nd, rfl⟩⟩; (try first | exact ⟨rfl, _, World.drewN_drewN _ _ _⟩ | exact ⟨rfl, _, Eq.trans (World.drewN_drewN _ _ _) (congrArg (World.drewN _) (Nat.add_assoc _ _ _))⟩))); go_upto_region 7 with (first | (go_at_call 15; (repeat rw [i64_w]); (with_reducible refine (laws_big.calls _ _ l0 false _ ?side1 ?side2 A2.out).mono ?_); (case side1 => repeat (first | exact HR0.out | (with_reducible refine Kd.C_alloc ?_ _) | (with_reducible refine Kd.C_drewN ?_ _) | (with_reducible refine Kd.C_drew ?_))); (case side2 => exact HC0.out); rintro e w' ⟨rfl, ⟨nd, rfl⟩⟩; (try first | exact ⟨rfl, _, World.drewN_drewN _ _ _⟩ | exact ⟨rfl, _, Eq.trans (World.drewN_drewN _ _ _) (congrArg (World.drewN _) (Nat.add_assoc _ _ _))⟩)) | (go_at_call 45; (repeat rw [i64_w]); (with_reducible refine (spec_DrawIndexOf.calls k _ _ l0 t238 t239 _ ?side1 ?side2 A4.out).mono ?_); (case side1 => repeat (first | exact HR0.out | (with_reducible refine Kd.C_alloc ?_ _) | (with_reducible refine Kd.C_drewN ?_ _) | (with_reducible refine Kd.C_drew ?_))); (case side2 => exact HC0.out); rintro e w9 ⟨v240, rfl, ho0, hb⟩; have n0_ := Aside0.mk (Kd.R_lower ho0 (below_size (by repeat (first | (with_reducible first | exact HB.out | apply below_alloc | apply pw_below_drewN | apply below_drew1) | exact HB.out)))); have n1_ := Aside0.mk (below_step (by repeat (first | (with_reducible first | exact HB.out | apply below_alloc | apply pw_below_drewN | apply below_drew1) | exact HB.out)) hb); clear HB; have HO241 := n0_; have HB := n1_; clear n0_ n1_; (try clear hb); (try clear hb2); (try clear hk); (try clear hi); (try clear ho0); obtain ⟨Ao10, co10, eo10⟩ := Kd.R_slice HO241.out; subst eo10) | (go_at_call 36; (repeat rw [i64_w]); (with_reducible refine (impl_IndexOf.calls k _ _ t238 t239 t242 _ ?side1 ?side2 A5.out).mono ?_); (case side1 => repeat (first | exact (Kd.R_reads' HO241.out).2.2 | (with_reducible refine Kd.C_alloc ?_ _) | (with_reducible refine Kd.C_drewN ?_ _) | (with_reducible refine Kd.C_drew ?_))); (case side2 => exact (Kd.R_reads' HO241.out).2.1); rintro e w11 ⟨v243, rfl, ho0, hb⟩; have n0_ := Aside0.mk (Kd.R_elder' (by (with_reducible repeat (first | apply Kd.R_alloc | apply Kd.R_drewN | apply Kd.R_drew)); exact HO241.out) (Kd.R_base ho0) hb); have n1_ := Aside0.mk (Kd.R_lower (Kd.R_new' ho0 (Kd.R_lt (by (with_reducible repeat (first | apply Kd.R_alloc | apply Kd.R_drewN | apply Kd.R_drew)); exact HO241.out))) (below_size (by repeat (first | (with_reducible first | exact HB.out | apply below_alloc | apply pw_below_drewN | apply below_drew1) | exact HB.out)))); have n2_ := Aside0.mk (below_step (by repeat (first | (with_reducible first | exact HB.out | apply below_alloc | apply pw_below_drewN | apply below_drew1) | exact HB.out)) hb); clear HO241; clear HB; have HO241 := n0_; have HO244 := n1_; have HB := n2_; clear n0_ n1_ n2_; (try clear hb); (try clear hb2); (try clear hk); (try clear hi); (try clear ho0)) | (go_at_call 36; (repeat rw [i64_w]); (with_reducible refine (impl_IndexOf.calls k _ _ t238 (wrap64 (t239 + 1)) t245 _ ?side1 ?side2 A6.out).mono ?_); (case side1 => repeat (first | exact (Kd.R_reads' HO241.out).2.2 | (with_reducible refine Kd.C_alloc ?_ _) | (with_reducible refine Kd.C_drewN ?_ _) | (with_reducible refine Kd.C_drew ?_))); (case side2 => exact (Kd.R_reads' HO241.out).2.1); rintro e w12 ⟨v246, rfl, ho0, hb⟩; have n0_ := Aside0.mk (Kd.R_elder' (by (with_reducible repeat (first | apply Kd.R_alloc | apply Kd.R_drewN | apply Kd.R_drew)); exact HO241.out) (Kd.R_base ho0) hb); have n1_ := Aside0.mk (Kd.R_elder' (by (with_reducible repeat (first | apply Kd.R_alloc | apply Kd.R_drewN | apply Kd.R_drew)); exact HO244.out) (Kd.R_base ho0) hb); have n2_ := Aside0.mk (Kd.R_lower (Kd.R_new' (Kd.R_new' ho0 (Kd.R_lt (by (with_reducible repeat (first | apply Kd.R_alloc | apply Kd.R_drewN | apply Kd.R_drew)); exact HO241.out))) (Kd.R_lt (by (with_reducible repeat (first | apply Kd.R_alloc | apply Kd.R_drewN | apply Kd.R_drew)); exact HO244.out))) (below_size (by repeat (first | (with_reducible first | exact HB.out | apply below_alloc | apply pw_below_drewN | apply below_drew1) | exact HB.out)))); have n3_ := Aside0.mk (below_step (by repeat (first | (with_reducible first | exact HB.out | apply below_alloc | apply pw_below_drewN | apply below_drew1) | exact HB.out)) hb); clear HO241; clear HO244; clear HB; have HO241 := n0_; have HO244 := n1_; have HO247 := n2_; have HB := n3_; clear n0_ n1_ n2_ n3_; (try clear hb); (try clear hb2); (try clear hk); (try clear hi); (try clear ho0)) | (go_at_call 46; (repeat rw [i64_w]); (with_reducible refine (impl_SizeOf.calls k _ _ t238 t248 _ ?side1 ?side2 A7.out).mono ?_); (case side1 => repeat (first | exact (Kd.R_reads' HO241.out).2.2 | (with_reducible refine Kd.C_alloc ?_ _) | (with_reducible refine Kd.C_drewN ?_ _) | (with_reducible refine Kd.C_drew ?_))); (case side2 => exact (Kd.R_reads' HO241.out).2.1); rintro e w' ⟨rfl, ⟨nd, rfl⟩⟩; (try first | exact ⟨rfl, _, World.drewN_drewN _ _ _⟩ | exact ⟨rfl, _, Eq.trans (World.drewN_drewN _ _ _) (congrArg (World.drewN _) (Nat.add_assoc _ _ _))⟩))))
    (try simp only [Act.put, List.setIfInBounds_toArray, List.set_cons_zero, List.set_cons_succ])
    go_cut [37] (fun v37 wc => ∃ (kq : Nat) (x37_7 : Bool), v37 = .bool x37_7 ∧ Aside0 (laws_FnOrder.j0 kq t238 t239 t242 t245 t248 x37_7 = some r) ∧ Aside0 (kq ≤ k) ∧ Aside0 (Kd.R (Kd.int .i64) 3 wc w.heap.size (fun k_ => some k_ ≠ (v243 : Value).ownBlock ∧ some k_ ≠ (v246 : Value).ownBlock) (.slice Ao10 t238.length co10) t238) ∧ Aside0 (Kd.R (Kd.int .i64) 3 wc w.heap.size (fun k_ => some k_ ≠ ((.slice Ao10 t238.length co10) : Value).ownBlock ∧ some k_ ≠ (v246 : Value).ownBlock) v243 t242) ∧ Aside0 (Kd.R (Kd.int .i64) 3 wc w.heap.size (fun k_ => some k_ ≠ ((.slice Ao10 t238.length co10) : Value).ownBlock ∧ some k_ ≠ (v243 : Value).ownBlock) v246 t245) ∧ Aside0 (Below w.heap.size w wc))
    case first =>
      have H := HC8.out
      clear HC8
      replace H := Option.bind_eq_some_iff.mp H
      obtain ⟨t249, A130, H⟩ := H
      replace H : (if t248 = t249 then ((spec_IndexOf.f k t238 t239).bind fun t250 => ((laws_sameInts.f k t242 t250).bind fun t253 => (laws_FnOrder.j0 k t238 t239 t242 t245 t248 (!t253)))) else (laws_FnOrder.j0 k t238 t239 t242 t245 t248 true)) = some r := H
      have A13 := Aside0.mk A130
      clear A130
      by_cases c14 : t248 = t249
      · rw [if_pos c14] at H
        have c14b0 : (t248 == t249) = true := beq_iff_eq.mpr c14
        have c14b1 : (t248 != t249) = false := bne_eq_false_iff_eq.mpr c14
        clear c14
        (first | rw [c14b0] | (simp only [i64_w, i32_w]; rw [c14b0]) | skip)
        replace H := Option.bind_eq_some_iff.mp H
        obtain ⟨t250, A150, H⟩ := H
        replace H : ((laws_sameInts.f k t242 t250).bind fun t253 => (laws_FnOrder.j0 k t238 t239 t242 t245 t248 (!t253))) = some r := H
        have A15 := Aside0.mk A150
        clear A150
        replace H := Option.bind_eq_some_iff.mp H
        obtain ⟨t253, A160, H⟩ := H
        replace H : (laws_FnOrder.j0 k t238 t239 t242 t245 t248 (!t253)) = some r := H
        have A16 := Aside0.mk A160
        clear A160
        have H' := Aside0.mk H
        clear H
        go_wp2_with (first | (go_at_call 47; (repeat rw [i64_w]); (with_reducible refine (spec_SizeOf.calls k _ _ t238 t249 _ ?side1 ?side2 A13.out).mono ?_); (case side1 => repeat (first | exact (Kd.R_reads' HO241.out).2.2 | (with_reducible refine Kd.C_alloc ?_ _) | (with_reducible refine Kd.C_drewN ?_ _) | (with_reducible refine Kd.C_drew ?_))); (case side2 => exact (Kd.R_reads' HO241.out).2.1); rintro e w' ⟨rfl, ⟨nd, rfl⟩⟩; (try first | exact ⟨rfl, _, World.drewN_drewN _ _ _⟩ | exact ⟨rfl, _, Eq.trans (World.drewN_drewN _ _ _) (congrArg (World.drewN _) (Nat.add_assoc _ _ _))⟩)) | (go_at_call 35; (repeat rw [i64_w]); (with_reducible refine (spec_IndexOf.calls k _ _ t238 t239 t250 _ ?side1 ?side2 A15.out).mono ?_); (case side1 => repeat (first | exact (Kd.R_reads' HO241.out).2.2 | (with_reducible refine Kd.C_alloc ?_ _) | (with_reducible refine Kd.C_drewN ?_ _) | (with_reducible refine Kd.C_drew ?_))); (case side2 => exact (Kd.R_reads' HO241.out).2.1); rintro e w17 ⟨v251, rfl, ho0, hb⟩; have n0_ := Aside0.mk (Kd.R_elder' (by (with_reducible repeat (first | apply Kd.R_alloc | apply Kd.R_drewN | apply Kd.R_drew)); exact HO241.out) (Kd.R_base ho0) hb); have n1_ := Aside0.mk (Kd.R_elder' (by (with_reducible repeat (first | apply Kd.R_alloc | apply Kd.R_drewN | apply Kd.R_drew)); exact HO244.out) (Kd.R_base ho0) hb); have n2_ := Aside0.mk (Kd.R_elder' (by (with_reducible repeat (first | apply Kd.R_alloc | apply Kd.R_drewN | apply Kd.R_drew)); exact HO247.out) (Kd.R_base ho0) hb); have n3_ := Aside0.mk (Kd.R_lower (Kd.R_new' (Kd.R_new' (Kd.R_new' ho0 (Kd.R_lt (by (with_reducible repeat (first | apply Kd.R_alloc | apply Kd.R_drewN | apply Kd.R_drew)); exact HO241.out))) (Kd.R_lt (by (with_reducible repeat (first | apply Kd.R_alloc | apply Kd.R_drewN | apply Kd.R_drew)); exact HO244.out))) (Kd.R_lt (by (with_reducible repeat (first | apply Kd.R_alloc | apply Kd.R_drewN | apply Kd.R_drew)); exact HO247.out))) (below_size (by repeat (first | (with_reducible first | exact HB.out | apply below_alloc | apply pw_below_drewN | apply below_drew1) | exact HB.out)))); have n4_ := Aside0.mk (below_step (by repeat (first | (with_reducible first | exact HB.out | apply below_alloc | apply pw_below_drewN | apply below_drew1) | exact HB.out)) hb); clear HO241; clear HO244; clear HO247; clear HB; have HO241 := n0_; have HO244 := n1_; have HO247 := n2_; have HO252 := n3_; have HB := n4_; clear n0_ n1_ n2_ n3_ n4_; (try clear hb); (try clear hb2); (try clear hk); (try clear hi); (try clear ho0); obtain ⟨Ao18, co18, eo18⟩ := Kd.R_slice HO244.out; subst eo18; obtain ⟨Ao19, co19, eo19⟩ := Kd.R_slice HO252.out; subst eo19) | (go_at_call 21; (repeat rw [i64_w]); (with_reducible refine (laws_sameInts.calls k _ _ t242 _ _ t250 t253 _ ?side1 ?side2 ?side3 ?side4 A16.out).mono ?_); (case side1 => repeat (first | exact (Kd.R_reads' HO244.out).2.2 | (with_reducible refine Kd.C_alloc ?_ _) | (with_reducible refine Kd.C_drewN ?_ _) | (with_reducible refine Kd.C_drew ?_))); (case side2 => exact (Kd.R_reads' HO244.out).2.1); (case side3 => repeat (first | exact (Kd.R_reads' HO252.out).2.2 | (with_reducible refine Kd.C_alloc ?_ _) | (with_reducible refine Kd.C_drewN ?_ _) | (with_reducible refine Kd.C_drew ?_))); (case side4 => exact (Kd.R_reads' HO252.out).2.1); rintro e w' ⟨rfl, ⟨nd, rfl⟩⟩; (try first | exact ⟨rfl, _, World.drewN_drewN _ _ _⟩ | exact ⟨rfl, _, Eq.trans (World.drewN_drewN _ _ _) (congrArg (World.drewN _) (Nat.add_assoc _ _ _))⟩)))
        repeat (go_quiet (first | (go_at_call 47; (repeat rw [i64_w]); (with_reducible refine (spec_SizeOf.calls k _ _ t238 t249 _ ?side1 ?side2 A13.out).mono ?_); (case side1 => repeat (first | exact (Kd.R_reads' HO241.out).2.2 | (with_reducible refine Kd.C_alloc ?_ _) | (with_reducible refine Kd.C_drewN ?_ _) | (with_reducible refine Kd.C_drew ?_))); (case side2 => exact (Kd.R_reads' HO241.out).2.1); rintro e w' ⟨rfl, ⟨nd, rfl⟩⟩; (try first | exact ⟨rfl, _, World.drewN_drewN _ _ _⟩ | exact ⟨rfl, _, Eq.trans (World.drewN_drewN _ _ _) (congrArg (World.drewN _) (Nat.add_assoc _ _ _))⟩)) | (go_at_call 21; (repeat rw [i64_w]); (with_reducible refine (laws_sameInts.calls k _ _ t242 _ _ t250 t253 _ ?side1 ?side2 ?side3 ?side4 A16.out).mono ?_); (case side1 => repeat (first | exact (Kd.R_reads' HO244.out).2.2 | (with_reducible refine Kd.C_alloc ?_ _) | (with_reducible refine Kd.C_drewN ?_ _) | (with_reducible refine Kd.C_drew ?_))); (case side2 => exact (Kd.R_reads' HO244.out).2.1); (case side3 => repeat (first | exact (Kd.R_reads' HO252.out).2.2 | (with_reducible refine Kd.C_alloc ?_ _) | (with_reducible refine Kd.C_drewN ?_ _) | (with_reducible refine Kd.C_drew ?_))); (case side4 => exact (Kd.R_reads' HO252.out).2.1); rintro e w' ⟨rfl, ⟨nd, rfl⟩⟩; (try first | exact ⟨rfl, _, World.drewN_drewN _ _ _⟩ | exact ⟨rfl, _, Eq.trans (World.drewN_drewN _ _ _) (congrArg (World.drewN _) (Nat.add_assoc _ _ _))⟩))); try go_wp2_with (first | (go_at_call 47; (repeat rw [i64_w]); (with_reducible refine (spec_SizeOf.calls k _ _ t238 t249 _ ?side1 ?side2 A13.out).mono ?_); (case side1 => repeat (first | exact (Kd.R_reads' HO241.out).2.2 | (with_reducible refine Kd.C_alloc ?_ _) | (with_reducible refine Kd.C_drewN ?_ _) | (with_reducible refine Kd.C_drew ?_))); (case side2 => exact (Kd.R_reads' HO241.out).2.1); rintro e w' ⟨rfl, ⟨nd, rfl⟩⟩; (try first | exact ⟨rfl, _, World.drewN_drewN _ _ _⟩ | exact ⟨rfl, _, Eq.trans (World.drewN_drewN _ _ _) (congrArg (World.drewN _) (Nat.add_assoc _ _ _))⟩)) | (go_at_call 35; (repeat rw [i64_w]); (with_reducible refine (spec_IndexOf.calls k _ _ t238 t239 t250 _ ?side1 ?side2 A15.out).mono ?_); (case side1 => repeat (first | exact (Kd.R_reads' HO241.out).2.2 | (with_reducible refine Kd.C_alloc ?_ _) | (with_reducible refine Kd.C_drewN ?_ _) | (with_reducible refine Kd.C_drew ?_))); (case side2 => exact (Kd.R_reads' HO241.out).2.1); rintro e w17 ⟨v251, rfl, ho0, hb⟩; have n0_ := Aside0.mk (Kd.R_elder' (by (with_reducible repeat (first | apply Kd.R_alloc | apply Kd.R_drewN | apply Kd.R_drew)); exact HO241.out) (Kd.R_base ho0) hb); have n1_ := Aside0.mk (Kd.R_elder' (by (with_reducible repeat (first | apply Kd.R_alloc | apply Kd.R_drewN | apply Kd.R_drew)); exact HO244.out) (Kd.R_base ho0) hb); have n2_ := Aside0.mk (Kd.R_elder' (by (with_reducible repeat (first | apply Kd.R_alloc | apply Kd.R_drewN | apply Kd.R_drew)); exact HO247.out) (Kd.R_base ho0) hb); have n3_ := Aside0.mk (Kd.R_lower (Kd.R_new' (Kd.R_new' (Kd.R_new' ho0 (Kd.R_lt (by (with_reducible repeat (first | apply Kd.R_alloc | apply Kd.R_drewN | apply Kd.R_drew)); exact HO241.out))) (Kd.R_lt (by (with_reducible repeat (first | apply Kd.R_alloc | apply Kd.R_drewN | apply Kd.R_drew)); exact HO244.out))) (Kd.R_lt (by (with_reducible repeat (first | apply Kd.R_alloc | apply Kd.R_drewN | apply Kd.R_drew)); exact HO247.out))) (below_size (by repeat (first | (with_reducible first | exact HB.out | apply below_alloc | apply pw_below_drewN | apply below_drew1) | exact HB.out)))); have n4_ := Aside0.mk (below_step (by repeat (first | (with_reducible first | exact HB.out | apply below_alloc | apply pw_below_drewN | apply below_drew1) | exact HB.out)) hb); clear HO241; clear HO244; clear HO247; clear HB; have HO241 := n0_; have HO244 := n1_; have HO247 := n2_; have HO252 := n3_; have HB := n4_; clear n0_ n1_ n2_ n3_ n4_; (try clear hb); (try clear hb2); (try clear hk); (try clear hi); (try clear ho0); obtain ⟨Ao18, co18, eo18⟩ := Kd.R_slice HO244.out; subst eo18; obtain ⟨Ao19, co19, eo19⟩ := Kd.R_slice HO252.out; subst eo19) | (go_at_call 21; (repeat rw [i64_w]); (with_reducible refine (laws_sameInts.calls k _ _ t242 _ _ t250 t253 _ ?side1 ?side2 ?side3 ?side4 A16.out).mono ?_); (case side1 => repeat (first | exact (Kd.R_reads' HO244.out).2.2 | (with_reducible refine Kd.C_alloc ?_ _) | (with_reducible refine Kd.C_drewN ?_ _) | (with_reducible refine Kd.C_drew ?_))); (case side2 => exact (Kd.R_reads' HO244.out).2.1); (case side3 => repeat (first | exact (Kd.R_reads' HO252.out).2.2 | (with_reducible refine Kd.C_alloc ?_ _) | (with_reducible refine Kd.C_drewN ?_ _) | (with_reducible refine Kd.C_drew ?_))); (case side4 => exact (Kd.R_reads' HO252.out).2.1); rintro e w' ⟨rfl, ⟨nd, rfl⟩⟩; (try first | exact ⟨rfl, _, World.drewN_drewN _ _ _⟩ | exact ⟨rfl, _, Eq.trans (World.drewN_drewN _ _ _) (congrArg (World.drewN _) (Nat.add_assoc _ _ _))⟩))))
        go_meet
        case rel => exact ⟨_, (!t253), (by first | rfl | (simp; done) | (simp [*]; done)), H', ⟨by first | omega | exact Nat.le_refl _⟩, ⟨by (with_reducible repeat (first | apply Kd.R_alloc | apply Kd.R_drewN | apply Kd.R_drew)); exact Kd.R_mono HO241.out (fun _ hk => ⟨hk.1.1.2, hk.1.2⟩)⟩, ⟨by (with_reducible repeat (first | apply Kd.R_alloc | apply Kd.R_drewN | apply Kd.R_drew)); exact Kd.R_mono HO244.out (fun _ hk => ⟨hk.1.1.2, hk.1.2⟩)⟩, ⟨by (with_reducible repeat (first | apply Kd.R_alloc | apply Kd.R_drewN | apply Kd.R_drew)); exact Kd.R_mono HO247.out (fun _ hk => ⟨hk.1.1.2, hk.1.2⟩)⟩, ⟨by repeat (first | (with_reducible first | exact HB.out | apply below_alloc | apply pw_below_drewN | apply below_drew1) | exact HB.out)⟩⟩
      · rw [if_neg c14] at H
        have c14b0 : (t248 == t249) = false := beq_eq_false_iff_ne.mpr c14
        have c14b1 : (t248 != t249) = true := bne_iff_ne.mpr c14
        (first | rw [c14b0] | (simp only [i64_w, i32_w]; rw [c14b0]) | skip)
        have hz_ : ∀ kz, laws_FnOrder.j0 kz t238 t239 t242 t245 t248 true = some r → r = false := by intro kz hz; cases kz with | zero => exact absurd hz (by simp [laws_FnOrder.j0]) | succ kz => simp only [laws_FnOrder.j0] at hz; first | (rw [if_pos rfl] at hz; exact (Option.some.inj hz).symm) | (simp at hz; exact hz.symm) | (simp at hz; exact hz)
        exact absurd (HT.out.symm.trans (hz_ _ H)) (by decide)
    case rest =>
      clear HC8
      try clear c1
      try clear p2
      try clear c3
      try clear p6
      try clear c11
      try clear c14
      try clear c14b0
      try clear c14b1
      obtain ⟨kq, x37_7, rfl, HA, HJ7, HO_3, HO_5, HO_6, HB⟩ := hcut
      cases kq with
      | zero => exact absurd HA.out (by simp [laws_FnOrder.j0])
      | succ kj7 =>
        have H := HA.out
        clear HA
        simp only [laws_FnOrder.j0] at H
        by_cases c20 : x37_7 = true
        · subst c20
          have H1 : (some false) = some r := by rw [if_pos rfl] at H; exact H
          clear H
          have H := H1
          clear H1
          obtain rfl := Option.some.inj H
          exact absurd HT.out (by decide)
        · replace c20 := Bool.eq_false_iff.mpr c20
          subst c20
          have H1 : (if t239 < 0 then (laws_FnOrder.j1 kj7 t238 t239 t242 t245 true) else (laws_FnOrder.j1 kj7 t238 t239 t242 t245 (decide ((wrap64 (t239 + 1)) ≥ t248)))) = some r := by rw [if_neg (show ¬ (false = true) by decide)] at H; exact H
          clear H
          have H := H1
          clear H1
          have HC21 := Aside0.mk H
          clear H
          go_upto_region 9 with (fail)
          repeat (go_quiet (fail); go_upto_region 9 with (fail))
          go_cut [45] (fun v45 wc => ∃ (kq : Nat) (x45_20 : Bool), v45 = .bool x45_20 ∧ Aside0 (laws_FnOrder.j1 kq t238 t239 t242 t245 x45_20 = some r) ∧ Aside0 (kq ≤ kj7) ∧ Aside0 (Kd.R (Kd.int .i64) 3 wc w.heap.size (fun k_ => some k_ ≠ (v243 : Value).ownBlock ∧ some k_ ≠ (v246 : Value).ownBlock) (.slice Ao10 t238.length co10) t238) ∧ Aside0 (Kd.R (Kd.int .i64) 3 wc w.heap.size (fun k_ => some k_ ≠ ((.slice Ao10 t238.length co10) : Value).ownBlock ∧ some k_ ≠ (v246 : Value).ownBlock) v243 t242) ∧ Aside0 (Kd.R (Kd.int .i64) 3 wc w.heap.size (fun k_ => some k_ ≠ ((.slice Ao10 t238.length co10) : Value).ownBlock ∧ some k_ ≠ (v243 : Value).ownBlock) v246 t245) ∧ Aside0 (Below w.heap.size w wc))
          case first =>
            have H := HC21.out
            clear HC21
            by_cases c22 : t239 < 0
            · rw [if_pos c22] at H
              have c22b0 : decide (t239 < 0) = true := decide_eq_true c22
              clear c22
              (first | rw [c22b0] | (simp only [i64_w, i32_w]; rw [c22b0]) | skip)
              have H' := Aside0.mk H
              clear H
              go_wp2
              repeat (go_quiet (fail); try go_wp2)
              go_meet
              case rel => exact ⟨_, (true), (by first | rfl | (simp; done) | (simp [*]; done)), H', ⟨by have := HJ7.out; first | omega | exact Nat.le_refl _⟩, ⟨by (with_reducible repeat (first | apply Kd.R_alloc | apply Kd.R_drewN | apply Kd.R_drew)); exact HO_3.out⟩, ⟨by (with_reducible repeat (first | apply Kd.R_alloc | apply Kd.R_drewN | apply Kd.R_drew)); exact HO_5.out⟩, ⟨by (with_reducible repeat (first | apply Kd.R_alloc | apply Kd.R_drewN | apply Kd.R_drew)); exact HO_6.out⟩, ⟨by repeat (first | (with_reducible first | exact HB.out | apply below_alloc | apply pw_below_drewN | apply below_drew1) | exact HB.out)⟩⟩
            · rw [if_neg c22] at H
              have c22b0 : decide (t239 < 0) = false := decide_eq_false c22
              clear c22
              (first | rw [c22b0] | (simp only [i64_w, i32_w]; rw [c22b0]) | skip)
              have H' := Aside0.mk H
              clear H
              go_wp2
              repeat (go_quiet (fail); try go_wp2)
              go_meet
              case rel => exact ⟨_, (decide ((wrap64 (t239 + 1)) ≥ t248)), (by first | rfl | (simp; done) | (simp [*]; done)), H', ⟨by have := HJ7.out; first | omega | exact Nat.le_refl _⟩, ⟨by (with_reducible repeat (first | apply Kd.R_alloc | apply Kd.R_drewN | apply Kd.R_drew)); exact HO_3.out⟩, ⟨by (with_reducible repeat (first | apply Kd.R_alloc | apply Kd.R_drewN | apply Kd.R_drew)); exact HO_5.out⟩, ⟨by (with_reducible repeat (first | apply Kd.R_alloc | apply Kd.R_drewN | apply Kd.R_drew)); exact HO_6.out⟩, ⟨by repeat (first | (with_reducible first | exact HB.out | apply below_alloc | apply pw_below_drewN | apply below_drew1) | exact HB.out)⟩⟩
          case rest =>
            clear HC21
            try clear c1
            try clear c2
            try clear p2
            try clear c3
            try clear p6
            try clear c11
            try clear c14
            try clear c14b0
            try clear c14b1
            try clear c20
            try clear c22
            try clear c22b0
            try clear p2
            try clear p6
            obtain ⟨kq, x45_20, rfl, HA, HJ20, HO_3, HO_5, HO_6, HB⟩ := hcut
            cases kq with
            | zero => exact absurd HA.out (by simp [laws_FnOrder.j1])
            | succ kj20 =>
              have H := HA.out
              clear HA
              simp only [laws_FnOrder.j1] at H
              by_cases c23 : x45_20 = true
              · subst c23
                have H1 : (if t239 < 0 then (some true) else (some ((t245.length : Int) == 0))) = some r := by rw [if_pos rfl] at H; exact H
                clear H
                have H := H1
                clear H1
                by_cases c24 : t239 < 0
                · rw [if_pos c24] at H
                  have c24b0 : decide (t239 < 0) = true := decide_eq_true c24
                  clear c24
                  obtain rfl := Option.some.inj H
                  go_wp2
                  repeat (go_quiet (fail); try go_wp2)
                  go_ret
                  exact ⟨by first | rfl | (simp [errW_none, errW_some] <;> rfl) | (simp [*, errW_none, errW_some] <;> rfl), by repeat (first | (with_reducible first | exact HB.out | apply below_alloc | apply pw_below_drewN | apply below_drew1) | exact HB.out)⟩
                · rw [if_neg c24] at H
                  have c24b0 : decide (t239 < 0) = false := decide_eq_false c24
                  clear c24
                  obtain rfl := Option.some.inj H
                  obtain ⟨Ao25, co25, eo25⟩ := Kd.R_slice HO_6.out
                  subst eo25
                  go_wp2
                  repeat (go_quiet (fail); try go_wp2)
                  go_ret
                  exact ⟨by first | rfl | (simp [errW_none, errW_some] <;> rfl) | (simp [*, errW_none, errW_some] <;> rfl), by repeat (first | (with_reducible first | exact HB.out | apply below_alloc | apply pw_below_drewN | apply below_drew1) | exact HB.out)⟩
              · replace c23 := Bool.eq_false_iff.mpr c23
                subst c23
                have H1 : (laws_FnOrder.l0 kj20 t238 t242 t245 (wrap64 ((t238.length : Int) - 1))) = some r := by rw [if_neg (show ¬ (false = true) by decide)] at H; exact H
                clear H
                have H := H1
                clear H1
                have H' := Aside0.mk H
                clear H
                go_wp2
                repeat (go_quiet (fail); try go_wp2)
                go_loopg [8] kj20 (fun kq v8 w' => ∃ (x8_3 : Int), v8 = .int .i64 x8_3 ∧ Aside0 (laws_FnOrder.l0 kq t238 t242 t245 x8_3 = some r) ∧ Aside0 (kq ≤ kj20) ∧ Aside0 (Kd.R (Kd.int .i64) 3 w' w.heap.size (fun k_ => some k_ ≠ (v243 : Value).ownBlock ∧ some k_ ≠ (v246 : Value).ownBlock) (.slice Ao10 t238.length co10) t238) ∧ Aside0 (Kd.R (Kd.int .i64) 3 w' w.heap.size (fun k_ => some k_ ≠ ((.slice Ao10 t238.length co10) : Value).ownBlock ∧ some k_ ≠ (v246 : Value).ownBlock) v243 t242) ∧ Aside0 (Kd.R (Kd.int .i64) 3 w' w.heap.size (fun k_ => some k_ ≠ ((.slice Ao10 t238.length co10) : Value).ownBlock ∧ some k_ ≠ (v243 : Value).ownBlock) v246 t245) ∧ Aside0 (Below w.heap.size w w'))
                case atStart => exact ⟨(wrap64 ((t238.length : Int) - 1)), (by first | rfl | (simp; done) | (simp [*]; done)), H', ⟨Nat.le_refl _⟩, ⟨by (with_reducible repeat (first | apply Kd.R_alloc | apply Kd.R_drewN | apply Kd.R_drew)); exact HO_3.out⟩, ⟨by (with_reducible repeat (first | apply Kd.R_alloc | apply Kd.R_drewN | apply Kd.R_drew)); exact HO_5.out⟩, ⟨by (with_reducible repeat (first | apply Kd.R_alloc | apply Kd.R_drewN | apply Kd.R_drew)); exact HO_6.out⟩, ⟨by repeat (first | (with_reducible first | exact HB.out | apply below_alloc | apply pw_below_drewN | apply below_drew1) | exact HB.out)⟩⟩
                case round =>
                  clear H'
                  try clear c1
                  try clear c2
                  try clear p2
                  try clear c3
                  try clear p6
                  try clear c11
                  try clear c14
                  try clear c14b0
                  try clear c14b1
                  try clear c20
                  try clear c22
                  try clear c22b0
                  try clear c23
                  try clear c24
                  try clear c24b0
                  try clear p2
                  try clear p6
                  obtain ⟨x8_3, rfl, HA, HK3, HO_3, HO_5, HO_6, HB⟩ := hrel
                  cases gk with
                  | zero => exact absurd HA.out (by simp [laws_FnOrder.l0])
                  | succ k3 =>
                    have H := HA.out
                    clear HA
                    simp only [laws_FnOrder.l0] at H
                    have HC26 := Aside0.mk H
                    clear H
                    go_upto_region 12 with (fail)
                    repeat (go_quiet (fail); go_upto_region 12 with (fail))
                    go_cut [69] (fun v69 wc => ∃ (kq : Nat) (x69_25 : Bool), v69 = .bool x69_25 ∧ Aside0 (laws_FnOrder.j3 kq t238 t242 t245 x8_3 x69_25 = some r) ∧ Aside0 (kq ≤ k3) ∧ Aside0 (Kd.R (Kd.int .i64) 3 wc w.heap.size (fun k_ => some k_ ≠ (v243 : Value).ownBlock ∧ some k_ ≠ (v246 : Value).ownBlock) (.slice Ao10 t238.length co10) t238) ∧ Aside0 (Kd.R (Kd.int .i64) 3 wc w.heap.size (fun k_ => some k_ ≠ ((.slice Ao10 t238.length co10) : Value).ownBlock ∧ some k_ ≠ (v246 : Value).ownBlock) v243 t242) ∧ Aside0 (Kd.R (Kd.int .i64) 3 wc w.heap.size (fun k_ => some k_ ≠ ((.slice Ao10 t238.length co10) : Value).ownBlock ∧ some k_ ≠ (v243 : Value).ownBlock) v246 t245) ∧ Aside0 (Below w.heap.size w wc))
                    case first =>
                      have H := HC26.out
                      clear HC26
                      by_cases c27 : x8_3 ≥ 0
                      · rw [if_pos c27] at H
                        have c27b0 : decide (0 ≤ x8_3) = true := decide_eq_true c27
                        clear c27
                        (first | rw [c27b0] | (simp only [i64_w, i32_w]; rw [c27b0]) | skip)
                        by_cases c28 : 0 ≤ x8_3
                        · rw [if_pos c28] at H
                          have c28b0 : decide (0 ≤ x8_3) = true := decide_eq_true c28
                          clear c28
                          by_cases c29 : x8_3 < (t242.length : Int)
                          · rw [if_pos c29] at H
                            have c29b0 : decide (x8_3 < (t242.length : Int)) = true := decide_eq_true c29
                            clear c29
                            by_cases c30 : x8_3 < (t238.length : Int)
                            · rw [if_pos c30] at H
                              have c30b0 : decide (x8_3 < (t238.length : Int)) = true := decide_eq_true c30
                              clear c30
                              have H' := Aside0.mk H
                              clear H
                              obtain ⟨Ao31, co31, eo31⟩ := Kd.R_slice HO_5.out
                              subst eo31
                              have p254 : 0 ≤ (x8_3 : Int) := of_decide_eq_true (by first | (with_reducible assumption) | assumption)
                              have q254 : x8_3 < (t242.length : Int) := of_decide_eq_true (by first | (with_reducible assumption) | assumption)
                              obtain ⟨ad254, e254, hx254_0⟩ := Kd.at_int (Kd.R_reads' HO_5.out).2.2 x8_3 p254 q254
                              cases e254
                              replace p254 := eq_true p254
                              replace q254 := eq_true q254
                              have p255 : 0 ≤ (x8_3 : Int) := of_decide_eq_true (by first | (with_reducible assumption) | assumption)
                              have q255 : x8_3 < (t238.length : Int) := of_decide_eq_true (by first | (with_reducible assumption) | assumption)
                              obtain ⟨ad255, e255, hx255_0⟩ := Kd.at_int (Kd.R_reads' HO_3.out).2.2 x8_3 p255 q255
                              cases e255
                              replace p255 := eq_true p255
                              replace q255 := eq_true q255
                              go_wp2
                              repeat (go_quiet (fail); try go_wp2)
                              go_meet
                              case rel => exact ⟨_, (((rd t242 x8_3) == (wrap64 ((rd t238 x8_3) - 1)))), (by first | rfl | (simp; done) | (simp [*]; done)), H', ⟨by have := HJ7.out; have := HJ20.out; have := HK3.out; first | omega | exact Nat.le_refl _⟩, ⟨by (with_reducible repeat (first | apply Kd.R_alloc | apply Kd.R_drewN | apply Kd.R_drew)); exact HO_3.out⟩, ⟨by (with_reducible repeat (first | apply Kd.R_alloc | apply Kd.R_drewN | apply Kd.R_drew)); exact HO_5.out⟩, ⟨by (with_reducible repeat (first | apply Kd.R_alloc | apply Kd.R_drewN | apply Kd.R_drew)); exact HO_6.out⟩, ⟨by repeat (first | (with_reducible first | exact HB.out | apply below_alloc | apply pw_below_drewN | apply below_drew1) | exact HB.out)⟩⟩
                            · rw [if_neg c30] at H
                              exact absurd H (by simp)
                          · rw [if_neg c29] at H
                            exact absurd H (by simp)
                        · rw [if_neg c28] at H
                          exact absurd H (by simp)
                      · rw [if_neg c27] at H
                        have c27b0 : decide (0 ≤ x8_3) = false := decide_eq_false c27
                        clear c27
                        (first | rw [c27b0] | (simp only [i64_w, i32_w]; rw [c27b0]) | skip)
                        have H' := Aside0.mk H
                        clear H
                        go_wp2
                        repeat (go_quiet (fail); try go_wp2)
                        go_meet
                        case rel => exact ⟨_, (false), (by first | rfl | (simp; done) | (simp [*]; done)), H', ⟨by have := HJ7.out; have := HJ20.out; have := HK3.out; first | omega | exact Nat.le_refl _⟩, ⟨by (with_reducible repeat (first | apply Kd.R_alloc | apply Kd.R_drewN | apply Kd.R_drew)); exact HO_3.out⟩, ⟨by (with_reducible repeat (first | apply Kd.R_alloc | apply Kd.R_drewN | apply Kd.R_drew)); exact HO_5.out⟩, ⟨by (with_reducible repeat (first | apply Kd.R_alloc | apply Kd.R_drewN | apply Kd.R_drew)); exact HO_6.out⟩, ⟨by repeat (first | (with_reducible first | exact HB.out | apply below_alloc | apply pw_below_drewN | apply below_drew1) | exact HB.out)⟩⟩
                    case rest =>
                      clear HC26
                      try clear c1
                      try clear c2
                      try clear p2
                      try clear q2
                      try clear hx2
                      try clear c3
                      try clear p6
                      try clear c11
                      try clear c14
                      try clear c14b0
                      try clear c14b1
                      try clear c20
                      try clear c22
                      try clear c22b0
                      try clear c23
                      try clear c24
                      try clear c24b0
                      try clear p25
                      try clear q25
                      try clear hx25
                      try clear c27
                      try clear c27b0
                      try clear c28
                      try clear c28b0
                      try clear c29
                      try clear c29b0
                      try clear c30
                      try clear c30b0
                      try clear hx254_0
                      try clear hx255_0
                      try clear p2
                      try clear p254
                      try clear p255
                      try clear p6
                      try clear q254
                      try clear q255
                      obtain ⟨kq, x69_25, rfl, HA, HJ25, HO_3, HO_5, HO_6, HB⟩ := hcut
                      cases kq with
                      | zero => exact absurd HA.out (by simp [laws_FnOrder.j3])
                      | succ kj25 =>
                        have H := HA.out
                        clear HA
                        simp only [laws_FnOrder.j3] at H
                        by_cases c32 : x69_25 = true
                        · subst c32
                          have H1 : (if 0 ≤ x8_3 then (if x8_3 < (t245.length : Int) then (if (rd t245 x8_3) = 0 then (laws_FnOrder.l0 kj25 t238 t242 t245 (wrap64 (x8_3 - 1))) else (some false)) else (none)) else (none)) = some r := by rw [if_pos rfl] at H; exact H
                          clear H
                          have H := H1
                          clear H1
                          by_cases c33 : 0 ≤ x8_3
                          · rw [if_pos c33] at H
                            have c33b0 : decide (0 ≤ x8_3) = true := decide_eq_true c33
                            clear c33
                            by_cases c34 : x8_3 < (t245.length : Int)
                            · rw [if_pos c34] at H
                              have c34b0 : decide (x8_3 < (t245.length : Int)) = true := decide_eq_true c34
                              clear c34
                              by_cases c35 : (rd t245 x8_3) = 0
                              · rw [if_pos c35] at H
                                have c35b0 : ((rd t245 x8_3) == 0) = true := beq_iff_eq.mpr c35
                                have c35b1 : ((rd t245 x8_3) != 0) = false := bne_eq_false_iff_eq.mpr c35
                                clear c35
                                have H' := Aside0.mk H
                                clear H
                                obtain ⟨Ao36, co36, eo36⟩ := Kd.R_slice HO_6.out
                                subst eo36
                                have p256 : 0 ≤ (x8_3 : Int) := of_decide_eq_true (by first | (with_reducible assumption) | assumption)
                                have q256 : x8_3 < (t245.length : Int) := of_decide_eq_true (by first | (with_reducible assumption) | assumption)
                                obtain ⟨ad256, e256, hx256_0⟩ := Kd.at_int (Kd.R_reads' HO_6.out).2.2 x8_3 p256 q256
                                cases e256
                                replace p256 := eq_true p256
                                replace q256 := eq_true q256
                                go_wp2
                                repeat (go_quiet (fail); try go_wp2)
                                go_roundg kj25
                                case measure => have := HJ7.out; have := HJ20.out; have := HK3.out; have := HJ25.out; omega
                                case rel => exact ⟨(wrap64 (x8_3 - 1)), (by first | rfl | (simp; done) | (simp [*]; done)), H', ⟨by have := HJ7.out; have := HJ20.out; have := HK3.out; have := HJ25.out; omega⟩, ⟨by (with_reducible repeat (first | apply Kd.R_alloc | apply Kd.R_drewN | apply Kd.R_drew)); exact HO_3.out⟩, ⟨by (with_reducible repeat (first | apply Kd.R_alloc | apply Kd.R_drewN | apply Kd.R_drew)); exact HO_5.out⟩, ⟨by (with_reducible repeat (first | apply Kd.R_alloc | apply Kd.R_drewN | apply Kd.R_drew)); exact HO_6.out⟩, ⟨by repeat (first | (with_reducible first | exact HB.out | apply below_alloc | apply pw_below_drewN | apply below_drew1) | exact HB.out)⟩⟩
                              · rw [if_neg c35] at H
                                have c35b0 : ((rd t245 x8_3) == 0) = false := beq_eq_false_iff_ne.mpr c35
                                have c35b1 : ((rd t245 x8_3) != 0) = true := bne_iff_ne.mpr c35
                                obtain rfl := Option.some.inj H
                                exact absurd HT.out (by decide)
                            · rw [if_neg c34] at H
                              exact absurd H (by simp)
                          · rw [if_neg c33] at H
                            exact absurd H (by simp)
                        · replace c32 := Bool.eq_false_iff.mpr c32
                          subst c32
                          have H1 : (if x8_3 < 0 then (laws_FnOrder.j4 kj25 t242 t245 x8_3 true) else (if 0 ≤ x8_3 then (if x8_3 < (t245.length : Int) then (if x8_3 < (t242.length : Int) then (laws_FnOrder.j4 kj25 t242 t245 x8_3 ((rd t245 x8_3) != (wrap64 ((rd t242 x8_3) + 1)))) else (none)) else (none)) else (none))) = some r := by rw [if_neg (show ¬ (false = true) by decide)] at H; exact H
                          clear H
                          have H := H1
                          clear H1
                          have HC37 := Aside0.mk H
                          clear H
                          go_upto_region 16 with (fail)
                          repeat (go_quiet (fail); go_upto_region 16 with (fail))
                          go_cut [90] (fun v90 wc => ∃ (kq : Nat) (x90_36 : Bool), v90 = .bool x90_36 ∧ Aside0 (laws_FnOrder.j4 kq t242 t245 x8_3 x90_36 = some r) ∧ Aside0 (kq ≤ kj25) ∧ Aside0 (Kd.R (Kd.int .i64) 3 wc w.heap.size (fun k_ => some k_ ≠ (v246 : Value).ownBlock) v243 t242) ∧ Aside0 (Kd.R (Kd.int .i64) 3 wc w.heap.size (fun k_ => some k_ ≠ (v243 : Value).ownBlock) v246 t245) ∧ Aside0 (Below w.heap.size w wc))
                          case first =>
                            have H := HC37.out
                            clear HC37
                            by_cases c38 : x8_3 < 0
                            · rw [if_pos c38] at H
                              have c38b0 : decide (x8_3 < 0) = true := decide_eq_true c38
                              clear c38
                              (first | rw [c38b0] | (simp only [i64_w, i32_w]; rw [c38b0]) | skip)
                              have hz_ : ∀ kz, laws_FnOrder.j4 kz t242 t245 x8_3 true = some r → r = false := by intro kz hz; cases kz with | zero => exact absurd hz (by simp [laws_FnOrder.j4]) | succ kz => simp only [laws_FnOrder.j4] at hz; first | (rw [if_pos rfl] at hz; exact (Option.some.inj hz).symm) | (simp at hz; exact hz.symm) | (simp at hz; exact hz)
                              exact absurd (HT.out.symm.trans (hz_ _ H)) (by decide)
                            · rw [if_neg c38] at H
                              have c38b0 : decide (x8_3 < 0) = false := decide_eq_false c38
                              clear c38
                              (first | rw [c38b0] | (simp only [i64_w, i32_w]; rw [c38b0]) | skip)
                              by_cases c39 : 0 ≤ x8_3
                              · rw [if_pos c39] at H
                                have c39b0 : decide (0 ≤ x8_3) = true := decide_eq_true c39
                                clear c39
                                by_cases c40 : x8_3 < (t245.length : Int)
                                · rw [if_pos c40] at H
                                  have c40b0 : decide (x8_3 < (t245.length : Int)) = true := decide_eq_true c40
                                  clear c40
                                  by_cases c41 : x8_3 < (t242.length : Int)
                                  · rw [if_pos c41] at H
                                    have c41b0 : decide (x8_3 < (t242.length : Int)) = true := decide_eq_true c41
                                    clear c41
                                    have H' := Aside0.mk H
                                    clear H
                                    obtain ⟨Ao42, co42, eo42⟩ := Kd.R_slice HO_6.out
                                    subst eo42
                                    have p257 : 0 ≤ (x8_3 : Int) := of_decide_eq_true (by first | (with_reducible assumption) | assumption)
                                    have q257 : x8_3 < (t245.length : Int) := of_decide_eq_true (by first | (with_reducible assumption) | assumption)
                                    obtain ⟨ad257, e257, hx257_0⟩ := Kd.at_int (Kd.R_reads' HO_6.out).2.2 x8_3 p257 q257
                                    cases e257
                                    replace p257 := eq_true p257
                                    replace q257 := eq_true q257
                                    obtain ⟨Ao43, co43, eo43⟩ := Kd.R_slice HO_5.out
                                    subst eo43
                                    have p258 : 0 ≤ (x8_3 : Int) := of_decide_eq_true (by first | (with_reducible assumption) | assumption)
                                    have q258 : x8_3 < (t242.length : Int) := of_decide_eq_true (by first | (with_reducible assumption) | assumption)
                                    obtain ⟨ad258, e258, hx258_0⟩ := Kd.at_int (Kd.R_reads' HO_5.out).2.2 x8_3 p258 q258
                                    cases e258
                                    replace p258 := eq_true p258
                                    replace q258 := eq_true q258
                                    go_wp2
                                    repeat (go_quiet (fail); try go_wp2)
                                    go_meet
                                    case rel => exact ⟨_, (((rd t245 x8_3) != (wrap64 ((rd t242 x8_3) + 1)))), (by first | rfl | (simp; done) | (simp [*]; done)), H', ⟨by have := HJ7.out; have := HJ20.out; have := HK3.out; have := HJ25.out; first | omega | exact Nat.le_refl _⟩, ⟨by (with_reducible repeat (first | apply Kd.R_alloc | apply Kd.R_drewN | apply Kd.R_drew)); exact Kd.R_mono HO_5.out (fun _ hk => hk.2)⟩, ⟨by (with_reducible repeat (first | apply Kd.R_alloc | apply Kd.R_drewN | apply Kd.R_drew)); exact Kd.R_mono HO_6.out (fun _ hk => hk.2)⟩, ⟨by repeat (first | (with_reducible first | exact HB.out | apply below_alloc | apply pw_below_drewN | apply below_drew1) | exact HB.out)⟩⟩
                                  · rw [if_neg c41] at H
                                    exact absurd H (by simp)
                                · rw [if_neg c40] at H
                                  exact absurd H (by simp)
                              · rw [if_neg c39] at H
                                exact absurd H (by simp)
                          case rest =>
                            clear HC37
                            try clear c1
                            try clear c2
                            try clear p2
                            try clear q2
                            try clear hx2
                            try clear c3
                            try clear c4
                            try clear p6
                            try clear c11
                            try clear c14
                            try clear c14b0
                            try clear c14b1
                            try clear c20
                            try clear c22
                            try clear c22b0
                            try clear c23
                            try clear c24
                            try clear c24b0
                            try clear p25
                            try clear q25
                            try clear hx25
                            try clear c27
                            try clear c27b0
                            try clear c28
                            try clear c28b0
                            try clear c29
                            try clear c29b0
                            try clear c30
                            try clear c30b0
                            try clear c32
                            try clear c33
                            try clear c33b0
                            try clear c34
                            try clear c34b0
                            try clear c35
                            try clear c35b0
                            try clear c35b1
                            try clear c38
                            try clear c38b0
                            try clear c39
                            try clear c39b0
                            try clear c40
                            try clear c40b0
                            try clear c41
                            try clear c41b0
                            try clear hx254_0
                            try clear hx255_0
                            try clear hx256_0
                            try clear hx257_0
                            try clear hx258_0
                            try clear p2
                            try clear p25
                            try clear p254
                            try clear p255
                            try clear p256
                            try clear p257
                            try clear p258
                            try clear p6
                            try clear q2
                            try clear q25
                            try clear q254
                            try clear q255
                            try clear q256
                            try clear q257
                            try clear q258
                            obtain ⟨kq, x90_36, rfl, HA, HJ36, HO_5, HO_6, HB⟩ := hcut
                            cases kq with
                            | zero => exact absurd HA.out (by simp [laws_FnOrder.j4])
                            | succ kj36 =>
                              have H := HA.out
                              clear HA
                              simp only [laws_FnOrder.j4] at H
                              by_cases c44 : x90_36 = true
                              · subst c44
                                have H1 : (some false) = some r := by rw [if_pos rfl] at H; exact H
                                clear H
                                have H := H1
                                clear H1
                                obtain rfl := Option.some.inj H
                                exact absurd HT.out (by decide)
                              · replace c44 := Bool.eq_false_iff.mpr c44
                                subst c44
                                have H1 : (laws_FnOrder.l1 kj36 t242 t245 x8_3 0) = some r := by rw [if_neg (show ¬ (false = true) by decide)] at H; exact H
                                clear H
                                have H := H1
                                clear H1
                                have H' := Aside0.mk H
                                clear H
                                go_wp2
                                repeat (go_quiet (fail); try go_wp2)
                                go_loopg [9] kj36 (fun kq v9 w' => ∃ (x9_6 : Int), v9 = .int .i64 x9_6 ∧ Aside0 (laws_FnOrder.l1 kq t242 t245 x8_3 x9_6 = some r) ∧ Aside0 (kq ≤ kj36) ∧ Aside0 (Kd.R (Kd.int .i64) 3 w' w.heap.size (fun k_ => some k_ ≠ (v246 : Value).ownBlock) v243 t242) ∧ Aside0 (Kd.R (Kd.int .i64) 3 w' w.heap.size (fun k_ => some k_ ≠ (v243 : Value).ownBlock) v246 t245) ∧ Aside0 (Below w.heap.size w w'))
                                case atStart => exact ⟨(0), (by first | rfl | (simp; done) | (simp [*]; done)), H', ⟨Nat.le_refl _⟩, ⟨by (with_reducible repeat (first | apply Kd.R_alloc | apply Kd.R_drewN | apply Kd.R_drew)); exact HO_5.out⟩, ⟨by (with_reducible repeat (first | apply Kd.R_alloc | apply Kd.R_drewN | apply Kd.R_drew)); exact HO_6.out⟩, ⟨by repeat (first | (with_reducible first | exact HB.out | apply below_alloc | apply pw_below_drewN | apply below_drew1) | exact HB.out)⟩⟩
                                case round =>
                                  clear H'
                                  try clear c1
                                  try clear c2
                                  try clear p2
                                  try clear q2
                                  try clear hx2
                                  try clear c3
                                  try clear c4
                                  try clear p6
                                  try clear c11
                                  try clear c14
                                  try clear c14b0
                                  try clear c14b1
                                  try clear c20
                                  try clear c22
                                  try clear c22b0
                                  try clear c23
                                  try clear c24
                                  try clear c24b0
                                  try clear p25
                                  try clear q25
                                  try clear hx25
                                  try clear c27
                                  try clear c27b0
                                  try clear c28
                                  try clear c28b0
                                  try clear c29
                                  try clear c29b0
                                  try clear c30
                                  try clear c30b0
                                  try clear c32
                                  try clear c33
                                  try clear c33b0
                                  try clear c34
                                  try clear c34b0
                                  try clear c35
                                  try clear c35b0
                                  try clear c35b1
                                  try clear c38
                                  try clear c38b0
                                  try clear c39
                                  try clear c39b0
                                  try clear c40
                                  try clear c40b0
                                  try clear c41
                                  try clear c41b0
                                  try clear c44
                                  try clear hx254_0
                                  try clear hx255_0
                                  try clear hx256_0
                                  try clear hx257_0
                                  try clear hx258_0
                                  try clear p2
                                  try clear p25
                                  try clear p254
                                  try clear p255
                                  try clear p256
                                  try clear p257
                                  try clear p258
                                  try clear p6
                                  try clear q2
                                  try clear q25
                                  try clear q254
                                  try clear q255
                                  try clear q256
                                  try clear q257
                                  try clear q258
                                  obtain ⟨x9_6, rfl, HA, HK6, HO_5, HO_6, HB⟩ := hrel
                                  cases gk with
                                  | zero => exact absurd HA.out (by simp [laws_FnOrder.l1])
                                  | succ k6 =>
                                    have H := HA.out
                                    clear HA
                                    simp only [laws_FnOrder.l1] at H
                                    by_cases c45 : x9_6 < x8_3
                                    · rw [if_pos c45] at H
                                      have c45b0 : decide (x9_6 < x8_3) = true := decide_eq_true c45
                                      clear c45
                                      by_cases c46 : 0 ≤ x9_6
                                      · rw [if_pos c46] at H
                                        have c46b0 : decide (0 ≤ x9_6) = true := decide_eq_true c46
                                        clear c46
                                        by_cases c47 : x9_6 < (t242.length : Int)
                                        · rw [if_pos c47] at H
                                          have c47b0 : decide (x9_6 < (t242.length : Int)) = true := decide_eq_true c47
                                          clear c47
                                          by_cases c48 : x9_6 < (t245.length : Int)
                                          · rw [if_pos c48] at H
                                            have c48b0 : decide (x9_6 < (t245.length : Int)) = true := decide_eq_true c48
                                            clear c48
                                            by_cases c49 : (rd t242 x9_6) = (rd t245 x9_6)
                                            · rw [if_pos c49] at H
                                              have c49b0 : ((rd t242 x9_6) == (rd t245 x9_6)) = true := beq_iff_eq.mpr c49
                                              have c49b1 : ((rd t242 x9_6) != (rd t245 x9_6)) = false := bne_eq_false_iff_eq.mpr c49
                                              clear c49
                                              have H' := Aside0.mk H
                                              clear H
                                              obtain ⟨Ao50, co50, eo50⟩ := Kd.R_slice HO_5.out
                                              subst eo50
                                              have p259 : 0 ≤ (x9_6 : Int) := of_decide_eq_true (by first | (with_reducible assumption) | assumption)
                                              have q259 : x9_6 < (t242.length : Int) := of_decide_eq_true (by first | (with_reducible assumption) | assumption)
                                              obtain ⟨ad259, e259, hx259_0⟩ := Kd.at_int (Kd.R_reads' HO_5.out).2.2 x9_6 p259 q259
                                              cases e259
                                              replace p259 := eq_true p259
                                              replace q259 := eq_true q259
                                              obtain ⟨Ao51, co51, eo51⟩ := Kd.R_slice HO_6.out
                                              subst eo51
                                              have p260 : 0 ≤ (x9_6 : Int) := of_decide_eq_true (by first | (with_reducible assumption) | assumption)
                                              have q260 : x9_6 < (t245.length : Int) := of_decide_eq_true (by first | (with_reducible assumption) | assumption)
                                              obtain ⟨ad260, e260, hx260_0⟩ := Kd.at_int (Kd.R_reads' HO_6.out).2.2 x9_6 p260 q260
                                              cases e260
                                              replace p260 := eq_true p260
                                              replace q260 := eq_true q260
                                              go_wp2
                                              repeat (go_quiet (fail); try go_wp2)
                                              go_roundg k6
                                              case measure => have := HJ7.out; have := HJ20.out; have := HK3.out; have := HJ25.out; have := HJ36.out; have := HK6.out; omega
                                              case rel => exact ⟨(wrap64 (x9_6 + 1)), (by first | rfl | (simp; done) | (simp [*]; done)), H', ⟨by have := HJ7.out; have := HJ20.out; have := HK3.out; have := HJ25.out; have := HJ36.out; have := HK6.out; omega⟩, ⟨by (with_reducible repeat (first | apply Kd.R_alloc | apply Kd.R_drewN | apply Kd.R_drew)); exact HO_5.out⟩, ⟨by (with_reducible repeat (first | apply Kd.R_alloc | apply Kd.R_drewN | apply Kd.R_drew)); exact HO_6.out⟩, ⟨by repeat (first | (with_reducible first | exact HB.out | apply below_alloc | apply pw_below_drewN | apply below_drew1) | exact HB.out)⟩⟩
                                            · rw [if_neg c49] at H
                                              have c49b0 : ((rd t242 x9_6) == (rd t245 x9_6)) = false := beq_eq_false_iff_ne.mpr c49
                                              have c49b1 : ((rd t242 x9_6) != (rd t245 x9_6)) = true := bne_iff_ne.mpr c49
                                              obtain rfl := Option.some.inj H
                                              exact absurd HT.out (by decide)
                                          · rw [if_neg c48] at H
                                            exact absurd H (by simp)
                                        · rw [if_neg c47] at H
                                          exact absurd H (by simp)
                                      · rw [if_neg c46] at H
                                        exact absurd H (by simp)
                                    · rw [if_neg c45] at H
                                      have c45b0 : decide (x9_6 < x8_3) = false := decide_eq_false c45
                                      clear c45
                                      obtain rfl := Option.some.inj H
                                      go_wp2
                                      repeat (go_quiet (fail); try go_wp2)
                                      go_ret
                                      exact ⟨by first | rfl | (simp [errW_none, errW_some] <;> rfl) | (simp [*, errW_none, errW_some] <;> rfl), by repeat (first | (with_reducible first | exact HB.out | apply below_alloc | apply pw_below_drewN | apply below_drew1) | exact HB.out)⟩

/-- THE ONE PURE STATEMENT of laws_FnOrder: yours. -/
def laws_FnOrder.Pure : Prop := ∀ (l0 : List Int), l0.length ≤ maxLen → l0.length * 1 ≤ 140737488351232 → (∀ x ∈ l0, (Lit.int .u8 x).wf = true) → ∃ k, laws_FnOrder.f k l0 = some true
theorem laws_FnOrder.walk (P : laws_FnOrder.Pure) (a0 : Option Addr) (len0 cap0 : Nat) (z0 : List Int) (w : World) (w0 : (a0 = none ∧ len0 = 0 ∧ cap0 = 0 ∧ z0 = []) ∨ ∃ x, a0 = some x ∧ len0 ≤ cap0 ∧ cap0 ≤ maxLen ∧ z0.length = cap0 ∧ (∀ i, i < z0.length → w.cell? (x.add i) = some (.int .u8 (z0.getD i 0))) ∧ ∀ n ∈ z0, (Lit.int .u8 n).wf = true) (y0 : len0 * 1 ≤ 140737488351232) :
    Calls Try.prog 11 #[.slice a0 len0 cap0] w fun e w' => e = .returned (.bool true) ∧ Below w.heap.size w w' := by
  obtain ⟨l0, rfl, hr0, hm0, hw0, hc0⟩ := ReadsInt.ofRowC w0
  obtain ⟨k, h⟩ := P l0 hm0 y0 hw0
  refine (laws_FnOrder.calls k _ _ l0 true w (Kd.C_of_reads (d := (0 : Int)) (h1 := fun _ => rfl) hr0) hc0 h rfl).mono ?_
  rintro e w' ⟨rfl, hd⟩
  exact ⟨rfl, hd⟩

end Go.Proofs.Ytfcjbdkipcpjcaa.PFnOrder
