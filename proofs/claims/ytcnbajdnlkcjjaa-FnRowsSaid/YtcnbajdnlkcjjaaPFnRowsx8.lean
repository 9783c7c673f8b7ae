/- The walk of what a law reaches, for the law's row: written by a program of this session; it has no condition of its own. -/
import Derived.Test.YtcnbajdnlkcjjaaPFnRowsx0
import Derived.Test.YtcnbajdnlkcjjaaPFnRowsx1
import Derived.Test.YtcnbajdnlkcjjaaPFnRowsx3
import Derived.Test.YtcnbajdnlkcjjaaPFnRowsx4
import Derived.Test.YtcnbajdnlkcjjaaPFnRowsx5
import Derived.Test.YtcnbajdnlkcjjaaPFnRowsx6
import Derived.Test.YtcnbajdnlkcjjaaPFnRowsx7
namespace Go.Proofs.Ytcnbajdnlkcjjaa.PFnRows
open Go.RowKit Go.Proofs.YtcnbajdnlkcjjaaW.PrintWords Go.Proofs.YtcnbajdnlkcjjaaW.PrintLast Go.Proofs.YtcnbajdnlkcjjaaW.PrintMore
attribute [local go_sem] max2_int min2_int max_two min_two max_three min_three max_four min_four   -- for this text's walks alone
set_option linter.unusedVariables false
set_option linter.unusedSimpArgs false

/-! ### laws_FnRows: function 6 -/
mutual
def laws_FnRows.l0 : Nat → List (S26) → Int → Int → List Int → List Int → Option (Bool)
  | 0, _, _, _, _, _ => none
  | k + 1, x4, x5, x6, x410000, x410001 => if x6 < (x4.length : Int) then (if 0 ≤ x6 then ((impl_ArrayOk.f k ((rd_T26 x4 x6).f0) ((rd_T26 x4 x6).f1)).bind fun t421 => (if t421 = true then (laws_FnRows.j1 k x4 x5 x6 ((((rd_T26 x4 x6).f0).length : Int) != (wrap64 ((x410000.length : Int) - 1))) x410000 x410001) else (laws_FnRows.j1 k x4 x5 x6 true x410000 x410001))) else (none)) else (if x5 = (x410001.length : Int) then (if 0 < (x410000.length : Int) then (some ((x4.length : Int) == (rd x410000 0))) else (none)) else (some false))
def laws_FnRows.j1 : Nat → List (S26) → Int → Int → Bool → List Int → List Int → Option (Bool)
  | 0, _, _, _, _, _, _ => none
  | k + 1, x4, x5, x6, x69, x410000, x410001 => if x69 = true then (some false) else (laws_FnRows.l1 k x4 x5 x6 0 x410000 x410001)
def laws_FnRows.l1 : Nat → List (S26) → Int → Int → Int → List Int → List Int → Option (Bool)
  | 0, _, _, _, _, _, _ => none
  | k + 1, x4, x5, x6, x7, x410000, x410001 => if 0 ≤ x6 then (if x6 < (x4.length : Int) then (if x7 < (((rd_T26 x4 x6).f1).length : Int) then ((impl_IndexOf.f k x410000 x5).bind fun t424 => ((impl_NumAt.f k x410000 x410001 t424).bind fun bt427 => (if bt427.2 = true then (if 0 ≤ x7 then (if bt427.1 = (rd ((rd_T26 x4 x6).f1) x7) then (if 0 ≤ x5 then (if x5 < (x410001.length : Int) then (if bt427.1 = (rd x410001 x5) then (laws_FnRows.l1 k x4 (wrap64 (x5 + 1)) x6 (wrap64 (x7 + 1)) x410000 x410001) else (some false)) else (none)) else (none)) else (some false)) else (none)) else (some false)))) else (laws_FnRows.l0 k x4 x5 (wrap64 (x6 + 1)) x410000 x410001)) else (none)) else (none)
end
def laws_FnRows.f (k : Nat) (l0 : List Int) : Option (Bool) := (laws_big.f l0).bind fun t402 => (if t402 = true then (some true) else ((spec_DrawRows.f k l0).bind fun bt403 => ((impl_Rows.f k bt403.1 bt403.2).bind fun t410 => ((spec_Rows.f k bt403.1 bt403.2).bind fun t413 => (if (t410.length : Int) = (t413.length : Int) then ((spec_ArrayOk.f k bt403.1 bt403.2).bind fun t416 => (if t416 = true then (if (bt403.1.length : Int) = 0 then (if (t410.length : Int) = 0 then ((impl_ArrayOk.f k bt403.1 bt403.2).bind fun t418 => (some t418)) else (some false)) else (laws_FnRows.l0 k t410 0 0 bt403.1 bt403.2)) else (if (t410.length : Int) = 0 then ((impl_ArraySame.f k bt403.1 bt403.2 bt403.1 bt403.2).bind fun t417 => (some (!t417))) else (some false)))) else (some false))))))
theorem laws_FnRows.mono_l : ∀ k, (∀ y0 y1 y2 y3 y4, LeO (laws_FnRows.l0 k y0 y1 y2 y3 y4) (laws_FnRows.l0 (k + 1) y0 y1 y2 y3 y4)) ∧ (∀ y0 y1 y2 y3 y4 y5, LeO (laws_FnRows.j1 k y0 y1 y2 y3 y4 y5) (laws_FnRows.j1 (k + 1) y0 y1 y2 y3 y4 y5)) ∧ (∀ y0 y1 y2 y3 y4 y5, LeO (laws_FnRows.l1 k y0 y1 y2 y3 y4 y5) (laws_FnRows.l1 (k + 1) y0 y1 y2 y3 y4 y5))
  | 0 => ⟨fun _ _ _ _ _ r h => by simp [laws_FnRows.l0] at h, fun _ _ _ _ _ _ r h => by simp [laws_FnRows.j1] at h, fun _ _ _ _ _ _ r h => by simp [laws_FnRows.l1] at h⟩
  | k + 1 => by
    obtain ⟨ih0, ih1, ih2⟩ := laws_FnRows.mono_l k
    refine ⟨?_, ?_, ?_⟩
    · intro y0 y1 y2 y3 y4
      unfold laws_FnRows.l0
      repeat' first
      | (with_reducible exact ih0 _ _ _ _ _)
      | (with_reducible exact ih1 _ _ _ _ _ _)
      | (with_reducible exact ih2 _ _ _ _ _ _)
      | (with_reducible exact impl_ArrayOk.mono _ _ _)
      | (with_reducible exact impl_ArraySame.mono _ _ _ _ _)
      | (with_reducible exact impl_IndexOf.mono _ _ _)
      | (with_reducible exact impl_NumAt.mono _ _ _ _)
      | (with_reducible exact impl_Rows.mono _ _ _)
      | (with_reducible exact spec_ArrayOk.mono _ _ _)
      | (with_reducible exact spec_DrawRows.mono _ _)
      | (with_reducible exact spec_Rows.mono _ _ _)
      | (with_reducible exact LeO.refl _)
      | (with_reducible exact LeO.none _)
      | (with_reducible refine LeO.ite ?_ ?_)
      | (with_reducible refine LeO.bind ?_ (fun _ => ?_))
      | exact ih0 _ _ _ _ _
      | exact ih1 _ _ _ _ _ _
      | exact ih2 _ _ _ _ _ _
      | exact impl_ArrayOk.mono _ _ _
      | exact impl_ArraySame.mono _ _ _ _ _
      | exact impl_IndexOf.mono _ _ _
      | exact impl_NumAt.mono _ _ _ _
      | exact impl_Rows.mono _ _ _
      | exact spec_ArrayOk.mono _ _ _
      | exact spec_DrawRows.mono _ _
      | exact spec_Rows.mono _ _ _
      | exact LeO.none _
      | refine LeO.ite ?_ ?_
      | refine LeO.bind ?_ (fun _ => ?_)
    · intro y0 y1 y2 y3 y4 y5
      unfold laws_FnRows.j1
      repeat' first
      | (with_reducible exact ih0 _ _ _ _ _)
      | (with_reducible exact ih1 _ _ _ _ _ _)
      | (with_reducible exact ih2 _ _ _ _ _ _)
      | (with_reducible exact impl_ArrayOk.mono _ _ _)
      | (with_reducible exact impl_ArraySame.mono _ _ _ _ _)
      | (with_reducible exact impl_IndexOf.mono _ _ _)
      | (with_reducible exact impl_NumAt.mono _ _ _ _)
      | (with_reducible exact impl_Rows.mono _ _ _)
      | (with_reducible exact spec_ArrayOk.mono _ _ _)
      | (with_reducible exact spec_DrawRows.mono _ _)
      | (with_reducible exact spec_Rows.mono _ _ _)
      | (with_reducible exact LeO.refl _)
      | (with_reducible exact LeO.none _)
      | (with_reducible refine LeO.ite ?_ ?_)
      | (with_reducible refine LeO.bind ?_ (fun _ => ?_))
      | exact ih0 _ _ _ _ _
      | exact ih1 _ _ _ _ _ _
      | exact ih2 _ _ _ _ _ _
      | exact impl_ArrayOk.mono _ _ _
      | exact impl_ArraySame.mono _ _ _ _ _
      | exact impl_IndexOf.mono _ _ _
      | exact impl_NumAt.mono _ _ _ _
      | exact impl_Rows.mono _ _ _
      | exact spec_ArrayOk.mono _ _ _
      | exact spec_DrawRows.mono _ _
      | exact spec_Rows.mono _ _ _
      | exact LeO.none _
      | refine LeO.ite ?_ ?_
      | refine LeO.bind ?_ (fun _ => ?_)
    · intro y0 y1 y2 y3 y4 y5
      unfold laws_FnRows.l1
      repeat' first
      | (with_reducible exact ih0 _ _ _ _ _)
      | (with_reducible exact ih1 _ _ _ _ _ _)
      | (with_reducible exact ih2 _ _ _ _ _ _)
      | (with_reducible exact impl_ArrayOk.mono _ _ _)
      | (with_reducible exact impl_ArraySame.mono _ _ _ _ _)
      | (with_reducible exact impl_IndexOf.mono _ _ _)
      | (with_reducible exact impl_NumAt.mono _ _ _ _)
      | (with_reducible exact impl_Rows.mono _ _ _)
      | (with_reducible exact spec_ArrayOk.mono _ _ _)
      | (with_reducible exact spec_DrawRows.mono _ _)
      | (with_reducible exact spec_Rows.mono _ _ _)
      | (with_reducible exact LeO.refl _)
      | (with_reducible exact LeO.none _)
      | (with_reducible refine LeO.ite ?_ ?_)
      | (with_reducible refine LeO.bind ?_ (fun _ => ?_))
      | exact ih0 _ _ _ _ _
      | exact ih1 _ _ _ _ _ _
      | exact ih2 _ _ _ _ _ _
      | exact impl_ArrayOk.mono _ _ _
      | exact impl_ArraySame.mono _ _ _ _ _
      | exact impl_IndexOf.mono _ _ _
      | exact impl_NumAt.mono _ _ _ _
      | exact impl_Rows.mono _ _ _
      | exact spec_ArrayOk.mono _ _ _
      | exact spec_DrawRows.mono _ _
      | exact spec_Rows.mono _ _ _
      | exact LeO.none _
      | refine LeO.ite ?_ ?_
      | refine LeO.bind ?_ (fun _ => ?_)
theorem laws_FnRows.mono : ∀ a0 k, LeO (laws_FnRows.f k a0) (laws_FnRows.f (k + 1) a0) := by
  intro a0 k
  obtain ⟨ih0, ih1, ih2⟩ := laws_FnRows.mono_l k
  unfold laws_FnRows.f
  repeat' first
      | (with_reducible exact ih0 _ _ _ _ _)
      | (with_reducible exact ih1 _ _ _ _ _ _)
      | (with_reducible exact ih2 _ _ _ _ _ _)
      | (with_reducible exact impl_ArrayOk.mono _ _ _)
      | (with_reducible exact impl_ArraySame.mono _ _ _ _ _)
      | (with_reducible exact impl_IndexOf.mono _ _ _)
      | (with_reducible exact impl_NumAt.mono _ _ _ _)
      | (with_reducible exact impl_Rows.mono _ _ _)
      | (with_reducible exact spec_ArrayOk.mono _ _ _)
      | (with_reducible exact spec_DrawRows.mono _ _)
      | (with_reducible exact spec_Rows.mono _ _ _)
      | (with_reducible exact LeO.refl _)
      | (with_reducible exact LeO.none _)
      | (with_reducible refine LeO.ite ?_ ?_)
      | (with_reducible refine LeO.bind ?_ (fun _ => ?_))
      | exact ih0 _ _ _ _ _
      | exact ih1 _ _ _ _ _ _
      | exact ih2 _ _ _ _ _ _
      | exact impl_ArrayOk.mono _ _ _
      | exact impl_ArraySame.mono _ _ _ _ _
      | exact impl_IndexOf.mono _ _ _
      | exact impl_NumAt.mono _ _ _ _
      | exact impl_Rows.mono _ _ _
      | exact spec_ArrayOk.mono _ _ _
      | exact spec_DrawRows.mono _ _
      | exact spec_Rows.mono _ _ _
      | exact LeO.none _
      | refine LeO.ite ?_ ?_
      | refine LeO.bind ?_ (fun _ => ?_)
def laws_FnRows.T15 : Bool × List (List Nat × List Nat) := (true, [([], []), ([], []), ([0, 1], [0, 1]), ([2], [2]), ([3], [3]), ([4], [4]), ([5, 4], [5]), ([6], [6]), ([6], [6]), ([7, 8, 6], [6, 7, 8]), ([9, 6], [6, 9]), ([10, 6], [6, 10]), ([11, 6], [6, 11]), ([6], [6]), ([13, 6], [6, 13]), ([14, 6], [6, 14]), ([15, 6], [6, 15]), ([12, 16, 6], [6, 12, 16]), ([6, 17], [6, 17])])
def laws_FnRows.B15 : List Nat := [0, 0, 3, 7, 15, 31, 63, 127, 127, 511, 1023, 2047, 4095, 127, 8319, 24703, 57471, 131071, 262143]
theorem laws_FnRows.tab15 : rtab .any (opsOf Try.f6 15) = laws_FnRows.T15 := by kernel_rfl
theorem laws_FnRows.bits15 : waitsOk laws_FnRows.T15.2 laws_FnRows.B15 = true := by kernel_rfl
def laws_FnRows.T20 : Bool × List (List Nat × List Nat) := (true, [([], []), ([], []), ([1], [1]), ([], []), ([2, 3], [2, 3]), ([0, 4, 4], [0, 4]), ([5], [5]), ([6], [6]), ([6], [6]), ([7, 5, 0, 1, 2, 3, 4, 5, 6, 7], [7]), ([8, 9, 0, 1, 2, 3, 4, 5, 6, 7, 8, 9], [8])])
def laws_FnRows.B20 : List Nat := [0, 0, 2, 0, 14, 31, 63, 127, 127, 255, 1023]
theorem laws_FnRows.tab20 : rtab .any (opsOf Try.f6 20) = laws_FnRows.T20 := by kernel_rfl
theorem laws_FnRows.bits20 : waitsOk laws_FnRows.T20.2 laws_FnRows.B20 = true := by kernel_rfl
set_option maxHeartbeats 8000000 in
set_option maxRecDepth 100000 in
theorem laws_FnRows.calls (k : Nat) (A0 : Option Addr) (c0 : Nat) (l0 : List Int) (r : Bool) (w : World) (hr0 : Kd.C (Kd.int .u8) w A0 l0.length l0) (hc0 : l0.length ≤ c0) (h : laws_FnRows.f k l0 = some r) (hT : r = true) :
    Calls Try.prog 6 #[.slice A0 l0.length c0] w fun e w' => e = .returned (.bool r) ∧ Below w.heap.size w w' := by
  have HT := Aside0.mk hT
  clear hT
  have hu26 := Try.underlying26
  have HR0 := Aside0.mk hr0
  have HC0 := Aside0.mk hc0
  clear hr0 hc0
  have HB := Aside0.mk (Below.refl w.heap.size w)
  have H : ((laws_big.f l0).bind fun t402 => (if t402 = true then (some true) else ((spec_DrawRows.f k l0).bind fun bt403 => ((impl_Rows.f k bt403.1 bt403.2).bind fun t410 => ((spec_Rows.f k bt403.1 bt403.2).bind fun t413 => (if (t410.length : Int) = (t413.length : Int) then ((spec_ArrayOk.f k bt403.1 bt403.2).bind fun t416 => (if t416 = true then (if (bt403.1.length : Int) = 0 then (if (t410.length : Int) = 0 then ((impl_ArrayOk.f k bt403.1 bt403.2).bind fun t418 => (some t418)) else (some false)) else (laws_FnRows.l0 k t410 0 0 bt403.1 bt403.2)) else (if (t410.length : Int) = 0 then ((impl_ArraySame.f k bt403.1 bt403.2 bt403.1 bt403.2).bind fun t417 => (some (!t417))) else (some false)))) else (some false))))))) = some r := h
  clear h
  replace H := Option.bind_eq_some_iff.mp H
  obtain ⟨t402, A20, H⟩ := H
  replace H : (if t402 = true then (some true) else ((spec_DrawRows.f k l0).bind fun bt403 => ((impl_Rows.f k bt403.1 bt403.2).bind fun t410 => ((spec_Rows.f k bt403.1 bt403.2).bind fun t413 => (if (t410.length : Int) = (t413.length : Int) then ((spec_ArrayOk.f k bt403.1 bt403.2).bind fun t416 => (if t416 = true then (if (bt403.1.length : Int) = 0 then (if (t410.length : Int) = 0 then ((impl_ArrayOk.f k bt403.1 bt403.2).bind fun t418 => (some t418)) else (some false)) else (laws_FnRows.l0 k t410 0 0 bt403.1 bt403.2)) else (if (t410.length : Int) = 0 then ((impl_ArraySame.f k bt403.1 bt403.2 bt403.1 bt403.2).bind fun t417 => (some (!t417))) else (some false)))) else (some false)))))) = some r := H
  have A2 := Aside0.mk A20
  clear A20
  by_cases c3 : t402 = true
  · subst c3
    have H1 : (some true) = some r := by rw [if_pos rfl] at H; exact H
    clear H
    have H := H1
    clear H1
    obtain rfl := Option.some.inj H
    go_enter Try.func6, Try.ntmps6
    go_wp2_with (first | ((with_reducible refine gate_callee (f := 22) rfl ?_); refine goesL_ (some 11) rfl rfl Try.func22 (by kernel_rfl) rfl #[.slice A0 l0.length c0] rfl (by (try simp only [List.map_toArray, List.map_cons, List.map_nil]); first | done | rfl | (simp only [List.length_drop, List.length_take]; rfl)) ?_; (with_reducible refine (laws_big.calls _ _ l0 true _ ?side1 ?side2 A2.out).mono ?_); (case side1 => repeat (first | exact HR0.out | (with_reducible refine Kd.C_alloc ?_ _) | (with_reducible refine Kd.C_drewN ?_ _) | (with_reducible refine Kd.C_drew ?_))); (case side2 => exact HC0.out); rintro e w' ⟨rfl, ⟨nd, rfl⟩⟩; refine ⟨_, rfl, ?_⟩))
    go_ret
    exact ⟨by first | rfl | (simp [errW_none, errW_some] <;> rfl) | (simp [*, errW_none, errW_some] <;> rfl), by repeat (first | (with_reducible first | exact HB.out | apply below_alloc | apply pw_below_drewN | apply below_drew1) | exact HB.out)⟩
  · replace c3 := Bool.eq_false_iff.mpr c3
    subst c3
    have H1 : ((spec_DrawRows.f k l0).bind fun bt403 => ((impl_Rows.f k bt403.1 bt403.2).bind fun t410 => ((spec_Rows.f k bt403.1 bt403.2).bind fun t413 => (if (t410.length : Int) = (t413.length : Int) then ((spec_ArrayOk.f k bt403.1 bt403.2).bind fun t416 => (if t416 = true then (if (bt403.1.length : Int) = 0 then (if (t410.length : Int) = 0 then ((impl_ArrayOk.f k bt403.1 bt403.2).bind fun t418 => (some t418)) else (some false)) else (laws_FnRows.l0 k t410 0 0 bt403.1 bt403.2)) else (if (t410.length : Int) = 0 then ((impl_ArraySame.f k bt403.1 bt403.2 bt403.1 bt403.2).bind fun t417 => (some (!t417))) else (some false)))) else (some false))))) = some r := by rw [if_neg (show ¬ (false = true) by decide)] at H; exact H
    clear H
    have H := H1
    clear H1
    replace H := Option.bind_eq_some_iff.mp H
    obtain ⟨⟨t403, t406⟩, A40, H⟩ := H
    replace H : ((impl_Rows.f k t403 t406).bind fun t410 => ((spec_Rows.f k t403 t406).bind fun t413 => (if (t410.length : Int) = (t413.length : Int) then ((spec_ArrayOk.f k t403 t406).bind fun t416 => (if t416 = true then (if (t403.length : Int) = 0 then (if (t410.length : Int) = 0 then ((impl_ArrayOk.f k t403 t406).bind fun t418 => (some t418)) else (some false)) else (laws_FnRows.l0 k t410 0 0 t403 t406)) else (if (t410.length : Int) = 0 then ((impl_ArraySame.f k t403 t406 t403 t406).bind fun t417 => (some (!t417))) else (some false)))) else (some false)))) = some r := H
    have A4 := Aside0.mk A40
    clear A40
    replace H := Option.bind_eq_some_iff.mp H
    obtain ⟨t410, A50, H⟩ := H
    replace H : ((spec_Rows.f k t403 t406).bind fun t413 => (if (t410.length : Int) = (t413.length : Int) then ((spec_ArrayOk.f k t403 t406).bind fun t416 => (if t416 = true then (if (t403.length : Int) = 0 then (if (t410.length : Int) = 0 then ((impl_ArrayOk.f k t403 t406).bind fun t418 => (some t418)) else (some false)) else (laws_FnRows.l0 k t410 0 0 t403 t406)) else (if (t410.length : Int) = 0 then ((impl_ArraySame.f k t403 t406 t403 t406).bind fun t417 => (some (!t417))) else (some false)))) else (some false))) = some r := H
    have A5 := Aside0.mk A50
    clear A50
    replace H := Option.bind_eq_some_iff.mp H
    obtain ⟨t413, A60, H⟩ := H
    replace H : (if (t410.length : Int) = (t413.length : Int) then ((spec_ArrayOk.f k t403 t406).bind fun t416 => (if t416 = true then (if (t403.length : Int) = 0 then (if (t410.length : Int) = 0 then ((impl_ArrayOk.f k t403 t406).bind fun t418 => (some t418)) else (some false)) else (laws_FnRows.l0 k t410 0 0 t403 t406)) else (if (t410.length : Int) = 0 then ((impl_ArraySame.f k t403 t406 t403 t406).bind fun t417 => (some (!t417))) else (some false)))) else (some false)) = some r := H
    have A6 := Aside0.mk A60
    clear A60
    by_cases c7 : (t410.length : Int) = (t413.length : Int)
    · rw [if_pos c7] at H
      have c7b0 : ((t410.length : Int) == (t413.length : Int)) = true := beq_iff_eq.mpr c7
      have c7b1 : ((t410.length : Int) != (t413.length : Int)) = false := bne_eq_false_iff_eq.mpr c7
      have c7b2 : (t410.length == t413.length) = true := by first | simpa using c7 | (simp at c7 ⊢; omega)
      clear c7
      replace H := Option.bind_eq_some_iff.mp H
      obtain ⟨t416, A80, H⟩ := H
      replace H : (if t416 = true then (if (t403.length : Int) = 0 then (if (t410.length : Int) = 0 then ((impl_ArrayOk.f k t403 t406).bind fun t418 => (some t418)) else (some false)) else (laws_FnRows.l0 k t410 0 0 t403 t406)) else (if (t410.length : Int) = 0 then ((impl_ArraySame.f k t403 t406 t403 t406).bind fun t417 => (some (!t417))) else (some false))) = some r := H
      have A8 := Aside0.mk A80
      clear A80
      by_cases c9 : t416 = true
      · subst c9
        have H1 : (if (t403.length : Int) = 0 then (if (t410.length : Int) = 0 then ((impl_ArrayOk.f k t403 t406).bind fun t418 => (some t418)) else (some false)) else (laws_FnRows.l0 k t410 0 0 t403 t406)) = some r := by rw [if_pos rfl] at H; exact H
        clear H
        have H := H1
        clear H1
        by_cases c10 : (t403.length : Int) = 0
        · rw [if_pos c10] at H
          have c10b0 : ((t403.length : Int) == 0) = true := beq_iff_eq.mpr c10
          have c10b1 : ((t403.length : Int) != 0) = false := bne_eq_false_iff_eq.mpr c10
          clear c10
          by_cases c11 : (t410.length : Int) = 0
          · rw [if_pos c11] at H
            have c11b0 : ((t410.length : Int) == 0) = true := beq_iff_eq.mpr c11
            have c11b1 : ((t410.length : Int) != 0) = false := bne_eq_false_iff_eq.mpr c11
            clear c11
            replace H := Option.bind_eq_some_iff.mp H
            obtain ⟨t418, A120, H⟩ := H
            replace H : (some t418) = some r := H
            have A12 := Aside0.mk A120
            clear A120
            obtain rfl := Option.some.inj H
            go_enter Try.func6, Try.ntmps6
            go_wp2_with (first | ((with_reducible refine gate_callee (f := 22) rfl ?_); refine goesL_ (some 11) rfl rfl Try.func22 (by kernel_rfl) rfl #[.slice A0 l0.length c0] rfl (by (try simp only [List.map_toArray, List.map_cons, List.map_nil]); first | done | rfl | (simp only [List.length_drop, List.length_take]; rfl)) ?_; (with_reducible refine (laws_big.calls _ _ l0 false _ ?side1 ?side2 A2.out).mono ?_); (case side1 => repeat (first | exact HR0.out | (with_reducible refine Kd.C_alloc ?_ _) | (with_reducible refine Kd.C_drewN ?_ _) | (with_reducible refine Kd.C_drew ?_))); (case side2 => exact HC0.out); rintro e w' ⟨rfl, ⟨nd, rfl⟩⟩; refine ⟨_, rfl, ?_⟩) | ((with_reducible refine gate_callee (f := 31) rfl ?_); refine goesL_ (some 13) rfl rfl Try.func31 (by kernel_rfl) rfl #[.slice A0 l0.length c0] rfl (by (try simp only [List.map_toArray, List.map_cons, List.map_nil]); first | done | rfl | (simp only [List.length_drop, List.length_take]; rfl)) ?_; (with_reducible refine (spec_DrawRows.calls k _ _ l0 t403 t406 _ ?side1 ?side2 A4.out).mono ?_); (case side1 => repeat (first | exact HR0.out | (with_reducible refine Kd.C_alloc ?_ _) | (with_reducible refine Kd.C_drewN ?_ _) | (with_reducible refine Kd.C_drew ?_))); (case side2 => exact HC0.out); rintro e w13 ⟨v404, v407, rfl, ho0, ho1, hb⟩; refine ⟨_, rfl, ?_⟩; have n0_ := Aside0.mk (Kd.R_lower ho0 (below_size (by repeat (first | (with_reducible first | exact HB.out | apply below_alloc | apply pw_below_drewN | apply below_drew1) | exact HB.out)))); have n1_ := Aside0.mk (Kd.R_lower ho1 (below_size (by repeat (first | (with_reducible first | exact HB.out | apply below_alloc | apply pw_below_drewN | apply below_drew1) | exact HB.out)))); have n2_ := Aside0.mk (below_step (by repeat (first | (with_reducible first | exact HB.out | apply below_alloc | apply pw_below_drewN | apply below_drew1) | exact HB.out)) hb); clear HB; have HO405 := n0_; have HO408 := n1_; have HB := n2_; clear n0_ n1_ n2_; (try clear hb); (try clear hb2); (try clear hk); (try clear hi); (try clear ho0); (try clear ho1)) | ((with_reducible refine gate_dst (N := 3) rfl ?_); (try (refine gate_guard (by rfl) ?_; dsimp only)); refine box_event ?hg (N := 3) ?hd (cs := #[.slice none 0 0, .slice none 0 0]) (t := 26) ?hr ?_; (case hd => rfl); (case hg => rfl); (case hr => first | (go_simp; done) | (go_simp; rfl)); intro gb409 hg w14 hbox hb; have n0_ := Aside0.mk (Kd.R_below (by (with_reducible repeat (first | apply Kd.R_alloc | apply Kd.R_drewN | apply Kd.R_drew)); exact HO405.out) hb); have n1_ := Aside0.mk (Kd.R_below (by (with_reducible repeat (first | apply Kd.R_alloc | apply Kd.R_drewN | apply Kd.R_drew)); exact HO408.out) hb); have n2_ := Aside0.mk (below_step (by repeat (first | (with_reducible first | exact HB.out | apply below_alloc | apply pw_below_drewN | apply below_drew1) | exact HB.out)) hb); have n3_ := Aside0.mk (hbox); have n4_ := Aside0.mk ((by rw [hg]; exact (below_size (by repeat (first | (with_reducible first | exact HB.out | apply below_alloc | apply pw_below_drewN | apply below_drew1) | exact HB.out))) : w.heap.size ≤ gb409)); have n5_ := Aside0.mk ((by rw [hg]; exact (below_size (by repeat (first | (with_reducible first | exact HB.out | apply below_alloc | apply pw_below_drewN | apply below_drew1) | exact HB.out))) : w.heap.size ≤ gb409)); clear HO405; clear HO408; clear HB; have HO405 := n0_; have HO408 := n1_; have HB := n2_; have BK409 := n3_; have GW409 := n4_; have GE409 := n5_; clear n0_ n1_ n2_ n3_ n4_ n5_; clear hb hbox hg; obtain ⟨Ao15, co15, eo15⟩ := Kd.R_slice HO405.out; subst eo15; have hcz16_0 : w14.cell? ⟨gb409, 0, none⟩ = some (.slice none 0 0) := (blk_cell BK409.out 0).trans rfl; have hcz16_1 : w14.cell? ⟨gb409, 1, none⟩ = some (.slice none 0 0) := (blk_cell BK409.out 1).trans rfl; have hfz16_0 := blk_frozen BK409.out 0; have hfz16_1 := blk_frozen BK409.out 1; obtain ⟨Ao17, co17, eo17⟩ := Kd.R_slice HO408.out; subst eo17) | ((with_reducible refine gate_callee (f := 32) rfl ?_); refine goesL_ (some 15) rfl rfl Try.func32 (by kernel_rfl) rfl #[.agg #[.slice Ao15 t403.length co15, .slice Ao17 t406.length co17]] rfl (by (try simp only [List.map_toArray, List.map_cons, List.map_nil]); first | done | rfl | (simp only [List.length_drop, List.length_take]; rfl)) ?_; (with_reducible refine (impl_Rows.calls k _ _ t403 _ _ t406 t410 _ ?side1 ?side2 ?side3 ?side4 A5.out).mono ?_); (case side1 => refine (Kd.R_reads' (e := 3) (base := w.heap.size) (ok := fun k_ => some k_ ≠ (.slice Ao17 t406.length co17 : Value).ownBlock) (n := t403.length) (c := co15) ?_).2.2; exact (by (with_reducible repeat (first | apply Kd.R_alloc | apply Kd.R_drewN | apply Kd.R_drew)); exact (Kd.R_mono (Kd.R_far (p := ⟨gb409, 1, none⟩) (Kd.R_far (p := ⟨gb409, 0, none⟩) (Kd.R_types HO405.out BK409.out (by decide)) (fun _ hk => hk.2) (.slice Ao15 t403.length co15)) (fun _ hk => hk.2) (.slice Ao17 t406.length co17)) (fun _ h_ => h_.1)))); (case side2 => exact (Kd.R_reads' HO405.out).2.1); (case side3 => refine (Kd.R_reads' (e := 3) (base := w.heap.size) (ok := fun k_ => some k_ ≠ (.slice Ao15 t403.length co15 : Value).ownBlock) (n := t406.length) (c := co17) ?_).2.2; exact (by (with_reducible repeat (first | apply Kd.R_alloc | apply Kd.R_drewN | apply Kd.R_drew)); exact (Kd.R_mono (Kd.R_far (p := ⟨gb409, 1, none⟩) (Kd.R_far (p := ⟨gb409, 0, none⟩) (Kd.R_types HO408.out BK409.out (by decide)) (fun _ hk => hk.2) (.slice Ao15 t403.length co15)) (fun _ hk => hk.2) (.slice Ao17 t406.length co17)) (fun _ h_ => h_.1)))); (case side4 => exact (Kd.R_reads' HO408.out).2.1); rintro e w18 ⟨v411, rfl, ho0, hb⟩; refine ⟨_, rfl, ?_⟩; have n0_ := Aside0.mk (Kd.R_below (by (with_reducible repeat (first | apply Kd.R_alloc | apply Kd.R_drewN | apply Kd.R_drew)); exact (Kd.R_mono (Kd.R_far (p := ⟨gb409, 1, none⟩) (Kd.R_far (p := ⟨gb409, 0, none⟩) (Kd.R_types HO405.out BK409.out (by decide)) (fun _ hk => hk.2) (.slice Ao15 t403.length co15)) (fun _ hk => hk.2) (.slice Ao17 t406.length co17)) (fun _ h_ => h_.1))) hb); have n1_ := Aside0.mk (Kd.R_below (by (with_reducible repeat (first | apply Kd.R_alloc | apply Kd.R_drewN | apply Kd.R_drew)); exact (Kd.R_mono (Kd.R_far (p := ⟨gb409, 1, none⟩) (Kd.R_far (p := ⟨gb409, 0, none⟩) (Kd.R_types HO408.out BK409.out (by decide)) (fun _ hk => hk.2) (.slice Ao15 t403.length co15)) (fun _ hk => hk.2) (.slice Ao17 t406.length co17)) (fun _ h_ => h_.1))) hb); have n2_ := Aside0.mk (Kd.S_lower (Kd.S_newB (Kd.S_new' (Kd.S_new' ho0 (Kd.R_lt (by (with_reducible repeat (first | apply Kd.R_alloc | apply Kd.R_drewN | apply Kd.R_drew)); exact (Kd.R_mono (Kd.R_far (p := ⟨gb409, 1, none⟩) (Kd.R_far (p := ⟨gb409, 0, none⟩) (Kd.R_types HO405.out BK409.out (by decide)) (fun _ hk => hk.2) (.slice Ao15 t403.length co15)) (fun _ hk => hk.2) (.slice Ao17 t406.length co17)) (fun _ h_ => h_.1))))) (Kd.R_lt (by (with_reducible repeat (first | apply Kd.R_alloc | apply Kd.R_drewN | apply Kd.R_drew)); exact (Kd.R_mono (Kd.R_far (p := ⟨gb409, 1, none⟩) (Kd.R_far (p := ⟨gb409, 0, none⟩) (Kd.R_types HO408.out BK409.out (by decide)) (fun _ hk => hk.2) (.slice Ao15 t403.length co15)) (fun _ hk => hk.2) (.slice Ao17 t406.length co17)) (fun _ h_ => h_.1))))) (g := gb409) (o := .cells #[.slice Ao15 t403.length co15, .slice Ao17 t406.length co17] 26 (0, 0)) (by (with_reducible repeat (first | refine blk_drewN ?_ _ | refine blk_drew ?_ | refine blk_alloc ?_ _)); refine blk_put (cs := #[.slice Ao15 t403.length co15, .slice none 0 0]) ?_ 1 _ rfl; (with_reducible repeat (first | refine blk_drewN ?_ _ | refine blk_drew ?_ | refine blk_alloc ?_ _)); refine blk_put (cs := #[.slice none 0 0, .slice none 0 0]) ?_ 0 _ rfl; (with_reducible repeat (first | refine blk_drewN ?_ _ | refine blk_drew ?_ | refine blk_alloc ?_ _)); exact BK409.out)) (below_size (by repeat (first | (with_reducible first | exact HB.out | apply below_alloc | apply pw_below_drewN | apply below_drew1 | refine below_set ?_ GE409.out) | exact HB.out)))); have n3_ := Aside0.mk (blk_below (g := gb409) (o := .cells #[.slice Ao15 t403.length co15, .slice Ao17 t406.length co17] 26 (0, 0)) (by (with_reducible repeat (first | refine blk_drewN ?_ _ | refine blk_drew ?_ | refine blk_alloc ?_ _)); refine blk_put (cs := #[.slice Ao15 t403.length co15, .slice none 0 0]) ?_ 1 _ rfl; (with_reducible repeat (first | refine blk_drewN ?_ _ | refine blk_drew ?_ | refine blk_alloc ?_ _)); refine blk_put (cs := #[.slice none 0 0, .slice none 0 0]) ?_ 0 _ rfl; (with_reducible repeat (first | refine blk_drewN ?_ _ | refine blk_drew ?_ | refine blk_alloc ?_ _)); exact BK409.out) hb); have n4_ := Aside0.mk (below_step (by repeat (first | (with_reducible first | exact HB.out | apply below_alloc | apply pw_below_drewN | apply below_drew1 | refine below_set ?_ GE409.out) | exact HB.out)) hb); clear HO405; clear HO408; clear BK409; clear HB; have HO405 := n0_; have HO408 := n1_; have HO412 := n2_; have BK409 := n3_; have HB := n4_; clear n0_ n1_ n2_ n3_ n4_; (try clear hb); (try clear hb2); (try clear hk); (try clear hi); (try clear ho0); obtain ⟨Ao19, co19, eo19⟩ := Kd.S_slice HO412.out; subst eo19; have hcz20_0 : w18.cell? ⟨gb409, 0, none⟩ = some (.slice Ao15 t403.length co15) := (blk_cell BK409.out 0).trans rfl; have hcz20_1 : w18.cell? ⟨gb409, 1, none⟩ = some (.slice Ao17 t406.length co17) := (blk_cell BK409.out 1).trans rfl; have hfz20_0 := blk_frozen BK409.out 0; have hfz20_1 := blk_frozen BK409.out 1) | ((with_reducible refine gate_callee (f := 33) rfl ?_); refine goesL_ (some 19) rfl rfl Try.func33 (by kernel_rfl) rfl #[.agg #[.slice Ao15 t403.length co15, .slice Ao17 t406.length co17]] rfl (by (try simp only [List.map_toArray, List.map_cons, List.map_nil]); first | done | rfl | (simp only [List.length_drop, List.length_take]; rfl)) ?_; (with_reducible refine (spec_Rows.calls k _ _ t403 _ _ t406 t413 _ ?side1 ?side2 ?side3 ?side4 A6.out).mono ?_); (case side1 => repeat (first | exact (Kd.R_reads' HO405.out).2.2 | (with_reducible refine Kd.C_alloc ?_ _) | (with_reducible refine Kd.C_drewN ?_ _) | (with_reducible refine Kd.C_drew ?_))); (case side2 => exact (Kd.R_reads' HO405.out).2.1); (case side3 => repeat (first | exact (Kd.R_reads' HO408.out).2.2 | (with_reducible refine Kd.C_alloc ?_ _) | (with_reducible refine Kd.C_drewN ?_ _) | (with_reducible refine Kd.C_drew ?_))); (case side4 => exact (Kd.R_reads' HO408.out).2.1); rintro e w21 ⟨v414, rfl, ho0, hb⟩; refine ⟨_, rfl, ?_⟩; have n0_ := Aside0.mk (Kd.R_below (by (with_reducible repeat (first | apply Kd.R_alloc | apply Kd.R_drewN | apply Kd.R_drew)); exact HO405.out) hb); have n1_ := Aside0.mk (Kd.R_below (by (with_reducible repeat (first | apply Kd.R_alloc | apply Kd.R_drewN | apply Kd.R_drew)); exact HO408.out) hb); have n2_ := Aside0.mk (Kd.S_elder' (by (with_reducible repeat (first | apply Kd.S_alloc | apply Kd.S_drewN | apply Kd.S_drew)); exact HO412.out) (Kd.S_base ho0) hb); have n3_ := Aside0.mk (Kd.S_lower (Kd.S_newB (Kd.S_new' (Kd.S_new' (Kd.S_new' ho0 (Kd.R_lt (by (with_reducible repeat (first | apply Kd.R_alloc | apply Kd.R_drewN | apply Kd.R_drew)); exact HO405.out))) (Kd.R_lt (by (with_reducible repeat (first | apply Kd.R_alloc | apply Kd.R_drewN | apply Kd.R_drew)); exact HO408.out))) (Kd.S_lt (by (with_reducible repeat (first | apply Kd.S_alloc | apply Kd.S_drewN | apply Kd.S_drew)); exact HO412.out))) (g := gb409) (o := .cells #[.slice Ao15 t403.length co15, .slice Ao17 t406.length co17] 26 (0, 0)) (by (with_reducible repeat (first | refine blk_drewN ?_ _ | refine blk_drew ?_ | refine blk_alloc ?_ _)); exact BK409.out)) (below_size (by repeat (first | (with_reducible first | exact HB.out | apply below_alloc | apply pw_below_drewN | apply below_drew1 | refine below_set ?_ GE409.out) | exact HB.out)))); have n4_ := Aside0.mk (blk_below (g := gb409) (o := .cells #[.slice Ao15 t403.length co15, .slice Ao17 t406.length co17] 26 (0, 0)) (by (with_reducible repeat (first | refine blk_drewN ?_ _ | refine blk_drew ?_ | refine blk_alloc ?_ _)); exact BK409.out) hb); have n5_ := Aside0.mk (below_step (by repeat (first | (with_reducible first | exact HB.out | apply below_alloc | apply pw_below_drewN | apply below_drew1 | refine below_set ?_ GE409.out) | exact HB.out)) hb); clear HO405; clear HO408; clear HO412; clear BK409; clear HB; have HO405 := n0_; have HO408 := n1_; have HO412 := n2_; have HO415 := n3_; have BK409 := n4_; have HB := n5_; clear n0_ n1_ n2_ n3_ n4_ n5_; (try clear hb); (try clear hb2); (try clear hk); (try clear hi); (try clear ho0); obtain ⟨Ao22, co22, eo22⟩ := Kd.S_slice HO415.out; subst eo22; have hcz23_0 : w21.cell? ⟨gb409, 0, none⟩ = some (.slice Ao15 t403.length co15) := (blk_cell BK409.out 0).trans rfl; have hcz23_1 : w21.cell? ⟨gb409, 1, none⟩ = some (.slice Ao17 t406.length co17) := (blk_cell BK409.out 1).trans rfl; have hfz23_0 := blk_frozen BK409.out 0; have hfz23_1 := blk_frozen BK409.out 1) | ((with_reducible refine gate_callee (f := 34) rfl ?_); refine goesL_ (some 23) rfl rfl Try.func34 (by kernel_rfl) rfl #[.agg #[.slice Ao15 t403.length co15, .slice Ao17 t406.length co17]] rfl (by (try simp only [List.map_toArray, List.map_cons, List.map_nil]); first | done | rfl | (simp only [List.length_drop, List.length_take]; rfl)) ?_; (with_reducible refine (spec_ArrayOk.calls k _ _ t403 _ _ t406 true _ ?side1 ?side2 ?side3 ?side4 A8.out).mono ?_); (case side1 => repeat (first | exact (Kd.R_reads' HO405.out).2.2 | (with_reducible refine Kd.C_alloc ?_ _) | (with_reducible refine Kd.C_drewN ?_ _) | (with_reducible refine Kd.C_drew ?_))); (case side2 => exact (Kd.R_reads' HO405.out).2.1); (case side3 => repeat (first | exact (Kd.R_reads' HO408.out).2.2 | (with_reducible refine Kd.C_alloc ?_ _) | (with_reducible refine Kd.C_drewN ?_ _) | (with_reducible refine Kd.C_drew ?_))); (case side4 => exact (Kd.R_reads' HO408.out).2.1); rintro e w24 ⟨rfl, hb⟩; refine ⟨_, rfl, ?_⟩; have n0_ := Aside0.mk (Kd.R_below (by (with_reducible repeat (first | apply Kd.R_alloc | apply Kd.R_drewN | apply Kd.R_drew)); exact HO405.out) hb); have n1_ := Aside0.mk (Kd.R_below (by (with_reducible repeat (first | apply Kd.R_alloc | apply Kd.R_drewN | apply Kd.R_drew)); exact HO408.out) hb); have n2_ := Aside0.mk (Kd.S_below (by (with_reducible repeat (first | apply Kd.S_alloc | apply Kd.S_drewN | apply Kd.S_drew)); exact HO412.out) hb); have n3_ := Aside0.mk (Kd.S_below (by (with_reducible repeat (first | apply Kd.S_alloc | apply Kd.S_drewN | apply Kd.S_drew)); exact HO415.out) hb); have n4_ := Aside0.mk (blk_below (g := gb409) (o := .cells #[.slice Ao15 t403.length co15, .slice Ao17 t406.length co17] 26 (0, 0)) (by (with_reducible repeat (first | refine blk_drewN ?_ _ | refine blk_drew ?_ | refine blk_alloc ?_ _)); exact BK409.out) hb); have n5_ := Aside0.mk (below_step (by repeat (first | (with_reducible first | exact HB.out | apply below_alloc | apply pw_below_drewN | apply below_drew1 | refine below_set ?_ GE409.out) | exact HB.out)) hb); clear HO405; clear HO408; clear HO412; clear HO415; clear BK409; clear HB; have HO405 := n0_; have HO408 := n1_; have HO412 := n2_; have HO415 := n3_; have BK409 := n4_; have HB := n5_; clear n0_ n1_ n2_ n3_ n4_ n5_; (try clear hb); (try clear hb2); (try clear hk); (try clear hi); have hcz25_0 : w24.cell? ⟨gb409, 0, none⟩ = some (.slice Ao15 t403.length co15) := (blk_cell BK409.out 0).trans rfl; have hcz25_1 : w24.cell? ⟨gb409, 1, none⟩ = some (.slice Ao17 t406.length co17) := (blk_cell BK409.out 1).trans rfl; have hfz25_0 := blk_frozen BK409.out 0; have hfz25_1 := blk_frozen BK409.out 1) | (go_at_call 36; (repeat rw [i64_w]); (with_reducible refine (impl_ArrayOk.calls k _ _ t403 _ _ t406 t418 _ ?side1 ?side2 ?side3 ?side4 A12.out).mono ?_); (case side1 => repeat (first | exact (Kd.R_reads' HO405.out).2.2 | (with_reducible refine Kd.C_alloc ?_ _) | (with_reducible refine Kd.C_drewN ?_ _) | (with_reducible refine Kd.C_drew ?_))); (case side2 => exact (Kd.R_reads' HO405.out).2.1); (case side3 => repeat (first | exact (Kd.R_reads' HO408.out).2.2 | (with_reducible refine Kd.C_alloc ?_ _) | (with_reducible refine Kd.C_drewN ?_ _) | (with_reducible refine Kd.C_drew ?_))); (case side4 => exact (Kd.R_reads' HO408.out).2.1); rintro e w26 ⟨rfl, hb⟩; have n0_ := Aside0.mk (Kd.R_below (by (with_reducible repeat (first | apply Kd.R_alloc | apply Kd.R_drewN | apply Kd.R_drew)); exact HO405.out) hb); have n1_ := Aside0.mk (Kd.R_below (by (with_reducible repeat (first | apply Kd.R_alloc | apply Kd.R_drewN | apply Kd.R_drew)); exact HO408.out) hb); have n2_ := Aside0.mk (Kd.S_below (by (with_reducible repeat (first | apply Kd.S_alloc | apply Kd.S_drewN | apply Kd.S_drew)); exact HO412.out) hb); have n3_ := Aside0.mk (Kd.S_below (by (with_reducible repeat (first | apply Kd.S_alloc | apply Kd.S_drewN | apply Kd.S_drew)); exact HO415.out) hb); have n4_ := Aside0.mk (blk_below (g := gb409) (o := .cells #[.slice Ao15 t403.length co15, .slice Ao17 t406.length co17] 26 (0, 0)) (by (with_reducible repeat (first | refine blk_drewN ?_ _ | refine blk_drew ?_ | refine blk_alloc ?_ _)); exact BK409.out) hb); have n5_ := Aside0.mk (below_step (by repeat (first | (with_reducible first | exact HB.out | apply below_alloc | apply pw_below_drewN | apply below_drew1 | refine below_set ?_ GE409.out) | exact HB.out)) hb); clear HO405; clear HO408; clear HO412; clear HO415; clear BK409; clear HB; have HO405 := n0_; have HO408 := n1_; have HO412 := n2_; have HO415 := n3_; have BK409 := n4_; have HB := n5_; clear n0_ n1_ n2_ n3_ n4_ n5_; (try clear hb); (try clear hb2); (try clear hk); (try clear hi)))
            go_ret
            exact ⟨by first | rfl | (simp [errW_none, errW_some] <;> rfl) | (simp [*, errW_none, errW_some] <;> rfl), by repeat (first | (with_reducible first | exact HB.out | apply below_alloc | apply pw_below_drewN | apply below_drew1 | refine below_set ?_ GE409.out) | exact HB.out)⟩
          · rw [if_neg c11] at H
            have c11b0 : ((t410.length : Int) == 0) = false := beq_eq_false_iff_ne.mpr c11
            have c11b1 : ((t410.length : Int) != 0) = true := bne_iff_ne.mpr c11
            have c11b2 : ¬ (t410 = []) := fun h_ => c11 (by rw [h_]; rfl)
            obtain rfl := Option.some.inj H
            exact absurd HT.out (by decide)
        · rw [if_neg c10] at H
          have c10b0 : ((t403.length : Int) == 0) = false := beq_eq_false_iff_ne.mpr c10
          have c10b1 : ((t403.length : Int) != 0) = true := bne_iff_ne.mpr c10
          have c10b2 : ¬ (t403 = []) := fun h_ => c10 (by rw [h_]; rfl)
          have H' := Aside0.mk H
          clear H
          go_enter Try.func6, Try.ntmps6
          go_wp2_with (first | ((with_reducible refine gate_callee (f := 22) rfl ?_); refine goesL_ (some 11) rfl rfl Try.func22 (by kernel_rfl) rfl #[.slice A0 l0.length c0] rfl (by (try simp only [List.map_toArray, List.map_cons, List.map_nil]); first | done | rfl | (simp only [List.length_drop, List.length_take]; rfl)) ?_; (with_reducible refine (laws_big.calls _ _ l0 false _ ?side1 ?side2 A2.out).mono ?_); (case side1 => repeat (first | exact HR0.out | (with_reducible refine Kd.C_alloc ?_ _) | (with_reducible refine Kd.C_drewN ?_ _) | (with_reducible refine Kd.C_drew ?_))); (case side2 => exact HC0.out); rintro e w' ⟨rfl, ⟨nd, rfl⟩⟩; refine ⟨_, rfl, ?_⟩) | ((with_reducible refine gate_callee (f := 31) rfl ?_); refine goesL_ (some 13) rfl rfl Try.func31 (by kernel_rfl) rfl #[.slice A0 l0.length c0] rfl (by (try simp only [List.map_toArray, List.map_cons, List.map_nil]); first | done | rfl | (simp only [List.length_drop, List.length_take]; rfl)) ?_; (with_reducible refine (spec_DrawRows.calls k _ _ l0 t403 t406 _ ?side1 ?side2 A4.out).mono ?_); (case side1 => repeat (first | exact HR0.out | (with_reducible refine Kd.C_alloc ?_ _) | (with_reducible refine Kd.C_drewN ?_ _) | (with_reducible refine Kd.C_drew ?_))); (case side2 => exact HC0.out); rintro e w27 ⟨v404, v407, rfl, ho0, ho1, hb⟩; refine ⟨_, rfl, ?_⟩; have n0_ := Aside0.mk (Kd.R_lower ho0 (below_size (by repeat (first | (with_reducible first | exact HB.out | apply below_alloc | apply pw_below_drewN | apply below_drew1) | exact HB.out)))); have n1_ := Aside0.mk (Kd.R_lower ho1 (below_size (by repeat (first | (with_reducible first | exact HB.out | apply below_alloc | apply pw_below_drewN | apply below_drew1) | exact HB.out)))); have n2_ := Aside0.mk (below_step (by repeat (first | (with_reducible first | exact HB.out | apply below_alloc | apply pw_below_drewN | apply below_drew1) | exact HB.out)) hb); clear HB; have HO405 := n0_; have HO408 := n1_; have HB := n2_; clear n0_ n1_ n2_; (try clear hb); (try clear hb2); (try clear hk); (try clear hi); (try clear ho0); (try clear ho1)) | ((with_reducible refine gate_dst (N := 3) rfl ?_); (try (refine gate_guard (by rfl) ?_; dsimp only)); refine box_event ?hg (N := 3) ?hd (cs := #[.slice none 0 0, .slice none 0 0]) (t := 26) ?hr ?_; (case hd => rfl); (case hg => rfl); (case hr => first | (go_simp; done) | (go_simp; rfl)); intro gb409 hg w28 hbox hb; have n0_ := Aside0.mk (Kd.R_below (by (with_reducible repeat (first | apply Kd.R_alloc | apply Kd.R_drewN | apply Kd.R_drew)); exact HO405.out) hb); have n1_ := Aside0.mk (Kd.R_below (by (with_reducible repeat (first | apply Kd.R_alloc | apply Kd.R_drewN | apply Kd.R_drew)); exact HO408.out) hb); have n2_ := Aside0.mk (below_step (by repeat (first | (with_reducible first | exact HB.out | apply below_alloc | apply pw_below_drewN | apply below_drew1) | exact HB.out)) hb); have n3_ := Aside0.mk (hbox); have n4_ := Aside0.mk ((by rw [hg]; exact (below_size (by repeat (first | (with_reducible first | exact HB.out | apply below_alloc | apply pw_below_drewN | apply below_drew1) | exact HB.out))) : w.heap.size ≤ gb409)); have n5_ := Aside0.mk ((by rw [hg]; exact (below_size (by repeat (first | (with_reducible first | exact HB.out | apply below_alloc | apply pw_below_drewN | apply below_drew1) | exact HB.out))) : w.heap.size ≤ gb409)); clear HO405; clear HO408; clear HB; have HO405 := n0_; have HO408 := n1_; have HB := n2_; have BK409 := n3_; have GW409 := n4_; have GE409 := n5_; clear n0_ n1_ n2_ n3_ n4_ n5_; clear hb hbox hg; obtain ⟨Ao29, co29, eo29⟩ := Kd.R_slice HO405.out; subst eo29; have hcz30_0 : w28.cell? ⟨gb409, 0, none⟩ = some (.slice none 0 0) := (blk_cell BK409.out 0).trans rfl; have hcz30_1 : w28.cell? ⟨gb409, 1, none⟩ = some (.slice none 0 0) := (blk_cell BK409.out 1).trans rfl; have hfz30_0 := blk_frozen BK409.out 0; have hfz30_1 := blk_frozen BK409.out 1; obtain ⟨Ao31, co31, eo31⟩ := Kd.R_slice HO408.out; subst eo31) | ((with_reducible refine gate_callee (f := 32) rfl ?_); refine goesL_ (some 15) rfl rfl Try.func32 (by kernel_rfl) rfl #[.agg #[.slice Ao29 t403.length co29, .slice Ao31 t406.length co31]] rfl (by (try simp only [List.map_toArray, List.map_cons, List.map_nil]); first | done | rfl | (simp only [List.length_drop, List.length_take]; rfl)) ?_; (with_reducible refine (impl_Rows.calls k _ _ t403 _ _ t406 t410 _ ?side1 ?side2 ?side3 ?side4 A5.out).mono ?_); (case side1 => refine (Kd.R_reads' (e := 3) (base := w.heap.size) (ok := fun k_ => some k_ ≠ (.slice Ao31 t406.length co31 : Value).ownBlock) (n := t403.length) (c := co29) ?_).2.2; exact (by (with_reducible repeat (first | apply Kd.R_alloc | apply Kd.R_drewN | apply Kd.R_drew)); exact (Kd.R_mono (Kd.R_far (p := ⟨gb409, 1, none⟩) (Kd.R_far (p := ⟨gb409, 0, none⟩) (Kd.R_types HO405.out BK409.out (by decide)) (fun _ hk => hk.2) (.slice Ao29 t403.length co29)) (fun _ hk => hk.2) (.slice Ao31 t406.length co31)) (fun _ h_ => h_.1)))); (case side2 => exact (Kd.R_reads' HO405.out).2.1); (case side3 => refine (Kd.R_reads' (e := 3) (base := w.heap.size) (ok := fun k_ => some k_ ≠ (.slice Ao29 t403.length co29 : Value).ownBlock) (n := t406.length) (c := co31) ?_).2.2; exact (by (with_reducible repeat (first | apply Kd.R_alloc | apply Kd.R_drewN | apply Kd.R_drew)); exact (Kd.R_mono (Kd.R_far (p := ⟨gb409, 1, none⟩) (Kd.R_far (p := ⟨gb409, 0, none⟩) (Kd.R_types HO408.out BK409.out (by decide)) (fun _ hk => hk.2) (.slice Ao29 t403.length co29)) (fun _ hk => hk.2) (.slice Ao31 t406.length co31)) (fun _ h_ => h_.1)))); (case side4 => exact (Kd.R_reads' HO408.out).2.1); rintro e w32 ⟨v411, rfl, ho0, hb⟩; refine ⟨_, rfl, ?_⟩; have n0_ := Aside0.mk (Kd.R_below (by (with_reducible repeat (first | apply Kd.R_alloc | apply Kd.R_drewN | apply Kd.R_drew)); exact (Kd.R_mono (Kd.R_far (p := ⟨gb409, 1, none⟩) (Kd.R_far (p := ⟨gb409, 0, none⟩) (Kd.R_types HO405.out BK409.out (by decide)) (fun _ hk => hk.2) (.slice Ao29 t403.length co29)) (fun _ hk => hk.2) (.slice Ao31 t406.length co31)) (fun _ h_ => h_.1))) hb); have n1_ := Aside0.mk (Kd.R_below (by (with_reducible repeat (first | apply Kd.R_alloc | apply Kd.R_drewN | apply Kd.R_drew)); exact (Kd.R_mono (Kd.R_far (p := ⟨gb409, 1, none⟩) (Kd.R_far (p := ⟨gb409, 0, none⟩) (Kd.R_types HO408.out BK409.out (by decide)) (fun _ hk => hk.2) (.slice Ao29 t403.length co29)) (fun _ hk => hk.2) (.slice Ao31 t406.length co31)) (fun _ h_ => h_.1))) hb); have n2_ := Aside0.mk (Kd.S_lower (Kd.S_newB (Kd.S_new' (Kd.S_new' ho0 (Kd.R_lt (by (with_reducible repeat (first | apply Kd.R_alloc | apply Kd.R_drewN | apply Kd.R_drew)); exact (Kd.R_mono (Kd.R_far (p := ⟨gb409, 1, none⟩) (Kd.R_far (p := ⟨gb409, 0, none⟩) (Kd.R_types HO405.out BK409.out (by decide)) (fun _ hk => hk.2) (.slice Ao29 t403.length co29)) (fun _ hk => hk.2) (.slice Ao31 t406.length co31)) (fun _ h_ => h_.1))))) (Kd.R_lt (by (with_reducible repeat (first | apply Kd.R_alloc | apply Kd.R_drewN | apply Kd.R_drew)); exact (Kd.R_mono (Kd.R_far (p := ⟨gb409, 1, none⟩) (Kd.R_far (p := ⟨gb409, 0, none⟩) (Kd.R_types HO408.out BK409.out (by decide)) (fun _ hk => hk.2) (.slice Ao29 t403.length co29)) (fun _ hk => hk.2) (.slice Ao31 t406.length co31)) (fun _ h_ => h_.1))))) (g := gb409) (o := .cells #[.slice Ao29 t403.length co29, .slice Ao31 t406.length co31] 26 (0, 0)) (by (with_reducible repeat (first | refine blk_drewN ?_ _ | refine blk_drew ?_ | refine blk_alloc ?_ _)); refine blk_put (cs := #[.slice Ao29 t403.length co29, .slice none 0 0]) ?_ 1 _ rfl; (with_reducible repeat (first | refine blk_drewN ?_ _ | refine blk_drew ?_ | refine blk_alloc ?_ _)); refine blk_put (cs := #[.slice none 0 0, .slice none 0 0]) ?_ 0 _ rfl; (with_reducible repeat (first | refine blk_drewN ?_ _ | refine blk_drew ?_ | refine blk_alloc ?_ _)); exact BK409.out)) (below_size (by repeat (first | (with_reducible first | exact HB.out | apply below_alloc | apply pw_below_drewN | apply below_drew1 | refine below_set ?_ GE409.out) | exact HB.out)))); have n3_ := Aside0.mk (blk_below (g := gb409) (o := .cells #[.slice Ao29 t403.length co29, .slice Ao31 t406.length co31] 26 (0, 0)) (by (with_reducible repeat (first | refine blk_drewN ?_ _ | refine blk_drew ?_ | refine blk_alloc ?_ _)); refine blk_put (cs := #[.slice Ao29 t403.length co29, .slice none 0 0]) ?_ 1 _ rfl; (with_reducible repeat (first | refine blk_drewN ?_ _ | refine blk_drew ?_ | refine blk_alloc ?_ _)); refine blk_put (cs := #[.slice none 0 0, .slice none 0 0]) ?_ 0 _ rfl; (with_reducible repeat (first | refine blk_drewN ?_ _ | refine blk_drew ?_ | refine blk_alloc ?_ _)); exact BK409.out) hb); have n4_ := Aside0.mk (below_step (by repeat (first | (with_reducible first | exact HB.out | apply below_alloc | apply pw_below_drewN | apply below_drew1 | refine below_set ?_ GE409.out) | exact HB.out)) hb); clear HO405; clear HO408; clear BK409; clear HB; have HO405 := n0_; have HO408 := n1_; have HO412 := n2_; have BK409 := n3_; have HB := n4_; clear n0_ n1_ n2_ n3_ n4_; (try clear hb); (try clear hb2); (try clear hk); (try clear hi); (try clear ho0); obtain ⟨Ao33, co33, eo33⟩ := Kd.S_slice HO412.out; subst eo33; have hcz34_0 : w32.cell? ⟨gb409, 0, none⟩ = some (.slice Ao29 t403.length co29) := (blk_cell BK409.out 0).trans rfl; have hcz34_1 : w32.cell? ⟨gb409, 1, none⟩ = some (.slice Ao31 t406.length co31) := (blk_cell BK409.out 1).trans rfl; have hfz34_0 := blk_frozen BK409.out 0; have hfz34_1 := blk_frozen BK409.out 1) | ((with_reducible refine gate_callee (f := 33) rfl ?_); refine goesL_ (some 19) rfl rfl Try.func33 (by kernel_rfl) rfl #[.agg #[.slice Ao29 t403.length co29, .slice Ao31 t406.length co31]] rfl (by (try simp only [List.map_toArray, List.map_cons, List.map_nil]); first | done | rfl | (simp only [List.length_drop, List.length_take]; rfl)) ?_; (with_reducible refine (spec_Rows.calls k _ _ t403 _ _ t406 t413 _ ?side1 ?side2 ?side3 ?side4 A6.out).mono ?_); (case side1 => repeat (first | exact (Kd.R_reads' HO405.out).2.2 | (with_reducible refine Kd.C_alloc ?_ _) | (with_reducible refine Kd.C_drewN ?_ _) | (with_reducible refine Kd.C_drew ?_))); (case side2 => exact (Kd.R_reads' HO405.out).2.1); (case side3 => repeat (first | exact (Kd.R_reads' HO408.out).2.2 | (with_reducible refine Kd.C_alloc ?_ _) | (with_reducible refine Kd.C_drewN ?_ _) | (with_reducible refine Kd.C_drew ?_))); (case side4 => exact (Kd.R_reads' HO408.out).2.1); rintro e w35 ⟨v414, rfl, ho0, hb⟩; refine ⟨_, rfl, ?_⟩; have n0_ := Aside0.mk (Kd.R_below (by (with_reducible repeat (first | apply Kd.R_alloc | apply Kd.R_drewN | apply Kd.R_drew)); exact HO405.out) hb); have n1_ := Aside0.mk (Kd.R_below (by (with_reducible repeat (first | apply Kd.R_alloc | apply Kd.R_drewN | apply Kd.R_drew)); exact HO408.out) hb); have n2_ := Aside0.mk (Kd.S_elder' (by (with_reducible repeat (first | apply Kd.S_alloc | apply Kd.S_drewN | apply Kd.S_drew)); exact HO412.out) (Kd.S_base ho0) hb); have n3_ := Aside0.mk (Kd.S_lower (Kd.S_newB (Kd.S_new' (Kd.S_new' (Kd.S_new' ho0 (Kd.R_lt (by (with_reducible repeat (first | apply Kd.R_alloc | apply Kd.R_drewN | apply Kd.R_drew)); exact HO405.out))) (Kd.R_lt (by (with_reducible repeat (first | apply Kd.R_alloc | apply Kd.R_drewN | apply Kd.R_drew)); exact HO408.out))) (Kd.S_lt (by (with_reducible repeat (first | apply Kd.S_alloc | apply Kd.S_drewN | apply Kd.S_drew)); exact HO412.out))) (g := gb409) (o := .cells #[.slice Ao29 t403.length co29, .slice Ao31 t406.length co31] 26 (0, 0)) (by (with_reducible repeat (first | refine blk_drewN ?_ _ | refine blk_drew ?_ | refine blk_alloc ?_ _)); exact BK409.out)) (below_size (by repeat (first | (with_reducible first | exact HB.out | apply below_alloc | apply pw_below_drewN | apply below_drew1 | refine below_set ?_ GE409.out) | exact HB.out)))); have n4_ := Aside0.mk (blk_below (g := gb409) (o := .cells #[.slice Ao29 t403.length co29, .slice Ao31 t406.length co31] 26 (0, 0)) (by (with_reducible repeat (first | refine blk_drewN ?_ _ | refine blk_drew ?_ | refine blk_alloc ?_ _)); exact BK409.out) hb); have n5_ := Aside0.mk (below_step (by repeat (first | (with_reducible first | exact HB.out | apply below_alloc | apply pw_below_drewN | apply below_drew1 | refine below_set ?_ GE409.out) | exact HB.out)) hb); clear HO405; clear HO408; clear HO412; clear BK409; clear HB; have HO405 := n0_; have HO408 := n1_; have HO412 := n2_; have HO415 := n3_; have BK409 := n4_; have HB := n5_; clear n0_ n1_ n2_ n3_ n4_ n5_; (try clear hb); (try clear hb2); (try clear hk); (try clear hi); (try clear ho0); obtain ⟨Ao36, co36, eo36⟩ := Kd.S_slice HO415.out; subst eo36; have hcz37_0 : w35.cell? ⟨gb409, 0, none⟩ = some (.slice Ao29 t403.length co29) := (blk_cell BK409.out 0).trans rfl; have hcz37_1 : w35.cell? ⟨gb409, 1, none⟩ = some (.slice Ao31 t406.length co31) := (blk_cell BK409.out 1).trans rfl; have hfz37_0 := blk_frozen BK409.out 0; have hfz37_1 := blk_frozen BK409.out 1) | ((with_reducible refine gate_callee (f := 34) rfl ?_); refine goesL_ (some 23) rfl rfl Try.func34 (by kernel_rfl) rfl #[.agg #[.slice Ao29 t403.length co29, .slice Ao31 t406.length co31]] rfl (by (try simp only [List.map_toArray, List.map_cons, List.map_nil]); first | done | rfl | (simp only [List.length_drop, List.length_take]; rfl)) ?_; (with_reducible refine (spec_ArrayOk.calls k _ _ t403 _ _ t406 true _ ?side1 ?side2 ?side3 ?side4 A8.out).mono ?_); (case side1 => repeat (first | exact (Kd.R_reads' HO405.out).2.2 | (with_reducible refine Kd.C_alloc ?_ _) | (with_reducible refine Kd.C_drewN ?_ _) | (with_reducible refine Kd.C_drew ?_))); (case side2 => exact (Kd.R_reads' HO405.out).2.1); (case side3 => repeat (first | exact (Kd.R_reads' HO408.out).2.2 | (with_reducible refine Kd.C_alloc ?_ _) | (with_reducible refine Kd.C_drewN ?_ _) | (with_reducible refine Kd.C_drew ?_))); (case side4 => exact (Kd.R_reads' HO408.out).2.1); rintro e w38 ⟨rfl, hb⟩; refine ⟨_, rfl, ?_⟩; have n0_ := Aside0.mk (Kd.R_below (by (with_reducible repeat (first | apply Kd.R_alloc | apply Kd.R_drewN | apply Kd.R_drew)); exact HO405.out) hb); have n1_ := Aside0.mk (Kd.R_below (by (with_reducible repeat (first | apply Kd.R_alloc | apply Kd.R_drewN | apply Kd.R_drew)); exact HO408.out) hb); have n2_ := Aside0.mk (Kd.S_below (by (with_reducible repeat (first | apply Kd.S_alloc | apply Kd.S_drewN | apply Kd.S_drew)); exact HO412.out) hb); have n3_ := Aside0.mk (Kd.S_below (by (with_reducible repeat (first | apply Kd.S_alloc | apply Kd.S_drewN | apply Kd.S_drew)); exact HO415.out) hb); have n4_ := Aside0.mk (blk_below (g := gb409) (o := .cells #[.slice Ao29 t403.length co29, .slice Ao31 t406.length co31] 26 (0, 0)) (by (with_reducible repeat (first | refine blk_drewN ?_ _ | refine blk_drew ?_ | refine blk_alloc ?_ _)); exact BK409.out) hb); have n5_ := Aside0.mk (below_step (by repeat (first | (with_reducible first | exact HB.out | apply below_alloc | apply pw_below_drewN | apply below_drew1 | refine below_set ?_ GE409.out) | exact HB.out)) hb); clear HO405; clear HO408; clear HO412; clear HO415; clear BK409; clear HB; have HO405 := n0_; have HO408 := n1_; have HO412 := n2_; have HO415 := n3_; have BK409 := n4_; have HB := n5_; clear n0_ n1_ n2_ n3_ n4_ n5_; (try clear hb); (try clear hb2); (try clear hk); (try clear hi); have hcz39_0 : w38.cell? ⟨gb409, 0, none⟩ = some (.slice Ao29 t403.length co29) := (blk_cell BK409.out 0).trans rfl; have hcz39_1 : w38.cell? ⟨gb409, 1, none⟩ = some (.slice Ao31 t406.length co31) := (blk_cell BK409.out 1).trans rfl; have hfz39_0 := blk_frozen BK409.out 0; have hfz39_1 := blk_frozen BK409.out 1))
          go_loopg [5, 6] k (fun kq v5 v6 w' => ∃ (x5_1 : Int) (x6_1 : Int), v5 = .int .i64 x5_1 ∧ v6 = .int .i64 x6_1 ∧ Aside0 (laws_FnRows.l0 kq t410 x5_1 x6_1 t403 t406 = some r) ∧ Aside0 (kq ≤ k) ∧ Aside0 (Kd.S k26 26 w' w.heap.size (fun k_ => some k_ ≠ ((.slice Ao29 t403.length co29) : Value).ownBlock ∧ some k_ ≠ ((.slice Ao31 t406.length co31) : Value).ownBlock ∧ k_ ≠ gb409) (.slice Ao33 t410.length co33) t410) ∧ Aside0 (Kd.R (Kd.int .i64) 3 w' w.heap.size (fun k_ => some k_ ≠ ((.slice Ao31 t406.length co31) : Value).ownBlock) (.slice Ao29 t403.length co29) t403) ∧ Aside0 (Kd.R (Kd.int .i64) 3 w' w.heap.size (fun k_ => some k_ ≠ ((.slice Ao29 t403.length co29) : Value).ownBlock) (.slice Ao31 t406.length co31) t406) ∧ Aside0 (w'.heap[gb409]? = some (.cells #[(.slice Ao29 t403.length co29), (.slice Ao31 t406.length co31)] 26 (0, 0))) ∧ Aside0 (Below w.heap.size w w'))
          case atStart => exact ⟨(0), (0), (by first | rfl | (simp; done) | (simp [*]; done)), (by first | rfl | (simp; done) | (simp [*]; done)), H', ⟨Nat.le_refl _⟩, ⟨by (with_reducible repeat (first | apply Kd.S_alloc | apply Kd.S_drewN | apply Kd.S_drew)); exact Kd.S_mono HO412.out (fun _ hk => ⟨hk.1.1.1.2, ⟨hk.1.1.2, hk.1.2⟩⟩)⟩, ⟨by (with_reducible repeat (first | apply Kd.R_alloc | apply Kd.R_drewN | apply Kd.R_drew)); exact HO405.out⟩, ⟨by (with_reducible repeat (first | apply Kd.R_alloc | apply Kd.R_drewN | apply Kd.R_drew)); exact HO408.out⟩, ⟨by (with_reducible repeat (first | refine blk_drewN ?_ _ | refine blk_drew ?_ | refine blk_alloc ?_ _)); exact BK409.out⟩, ⟨by repeat (first | (with_reducible first | exact HB.out | apply below_alloc | apply pw_below_drewN | apply below_drew1 | refine below_set ?_ GE409.out) | exact HB.out)⟩⟩
          case round =>
            clear H'
            try clear c1
            try clear c2
            try clear p2
            try clear c3
            try clear c6
            try clear c7
            try clear c7b0
            try clear c7b1
            try clear c7b2
            try clear c9
            try clear c10
            try clear c10b0
            try clear c10b1
            try clear c10b2
            try clear c11
            try clear c11b0
            try clear c11b1
            try clear c11b2
            try clear c22
            try clear c31
            try clear c32
            try clear c33
            try clear c34
            try clear hcz16_0
            try clear hcz16_1
            try clear hcz20_0
            try clear hcz20_1
            try clear hcz23_0
            try clear hcz23_1
            try clear hcz25_0
            try clear hcz25_1
            try clear hcz30_0
            try clear hcz30_1
            try clear hcz34_0
            try clear hcz34_1
            try clear hcz37_0
            try clear hcz37_1
            try clear hcz39_0
            try clear hcz39_1
            try clear hfz16_0
            try clear hfz16_1
            try clear hfz20_0
            try clear hfz20_1
            try clear hfz23_0
            try clear hfz23_1
            try clear hfz25_0
            try clear hfz25_1
            try clear hfz30_0
            try clear hfz30_1
            try clear hfz34_0
            try clear hfz34_1
            try clear hfz37_0
            try clear hfz37_1
            try clear hfz39_0
            try clear hfz39_1
            obtain ⟨x5_1, x6_1, rfl, rfl, HA, HK1, HO_4, HO_410000, HO_410001, BK409, HB⟩ := hrel
            cases gk with
            | zero => exact absurd HA.out (by simp [laws_FnRows.l0])
            | succ k1 =>
              have H := HA.out
              clear HA
              simp only [laws_FnRows.l0] at H
              by_cases c40 : x6_1 < (t410.length : Int)
              · rw [if_pos c40] at H
                have c40b0 : decide (x6_1 < (t410.length : Int)) = true := decide_eq_true c40
                clear c40
                have HC41 := Aside0.mk H
                clear H
                go_upto_region 15 with (fail)
                go_cut [69] (fun v69 wc => ∃ (kq : Nat) (x69_40 : Bool), v69 = .bool x69_40 ∧ Aside0 (laws_FnRows.j1 kq t410 x5_1 x6_1 x69_40 t403 t406 = some r) ∧ Aside0 (kq ≤ k1) ∧ Aside0 (Kd.S k26 26 wc w.heap.size (fun k_ => some k_ ≠ ((.slice Ao29 t403.length co29) : Value).ownBlock ∧ some k_ ≠ ((.slice Ao31 t406.length co31) : Value).ownBlock ∧ k_ ≠ gb409) (.slice Ao33 t410.length co33) t410) ∧ Aside0 (Kd.R (Kd.int .i64) 3 wc w.heap.size (fun k_ => some k_ ≠ ((.slice Ao31 t406.length co31) : Value).ownBlock) (.slice Ao29 t403.length co29) t403) ∧ Aside0 (Kd.R (Kd.int .i64) 3 wc w.heap.size (fun k_ => some k_ ≠ ((.slice Ao29 t403.length co29) : Value).ownBlock) (.slice Ao31 t406.length co31) t406) ∧ Aside0 (wc.heap[gb409]? = some (.cells #[(.slice Ao29 t403.length co29), (.slice Ao31 t406.length co31)] 26 (0, 0))) ∧ Aside0 (Below w.heap.size w wc))
                case first =>
                  have H := HC41.out
                  clear HC41
                  by_cases c42 : 0 ≤ x6_1
                  · rw [if_pos c42] at H
                    have c42b0 : decide (0 ≤ x6_1) = true := decide_eq_true c42
                    clear c42
                    (first | rw [c42b0] | (simp only [i64_w, i32_w]; rw [c42b0]) | skip)
                    replace H := Option.bind_eq_some_iff.mp H
                    obtain ⟨t421, A430, H⟩ := H
                    replace H : (if t421 = true then (laws_FnRows.j1 k1 t410 x5_1 x6_1 ((((rd_T26 t410 x6_1).f0).length : Int) != (wrap64 ((t403.length : Int) - 1))) t403 t406) else (laws_FnRows.j1 k1 t410 x5_1 x6_1 true t403 t406)) = some r := H
                    have A43 := Aside0.mk A430
                    clear A430
                    by_cases c44 : t421 = true
                    · subst c44
                      have H1 : (laws_FnRows.j1 k1 t410 x5_1 x6_1 ((((rd_T26 t410 x6_1).f0).length : Int) != (wrap64 ((t403.length : Int) - 1))) t403 t406) = some r := by rw [if_pos rfl] at H; exact H
                      clear H
                      have H := H1
                      clear H1
                      have H' := Aside0.mk H
                      clear H
                      try go_wp2
                      have n0_ := Aside0.mk (Kd.S_drew HO_4.out)
                      have n1_ := Aside0.mk (Kd.R_drew HO_410000.out)
                      have n2_ := Aside0.mk (Kd.R_drew HO_410001.out)
                      have n3_ := Aside0.mk (blk_drew BK409.out)
                      have n4_ := Aside0.mk (below_drew1 HB.out)
                      clear HO_4 HO_410000 HO_410001 BK409 HB
                      have HO_4 := n0_
                      have HO_410000 := n1_
                      have HO_410001 := n2_
                      have BK409 := n3_
                      have HB := n4_
                      clear n0_ n1_ n2_ n3_ n4_
                      have p420 : 0 ≤ (x6_1 : Int) := of_decide_eq_true (by first | (with_reducible assumption) | assumption)
                      have q420 : x6_1 < (t410.length : Int) := of_decide_eq_true (by first | (with_reducible assumption) | assumption)
                      obtain ⟨ad420, A420_0, c420_0, A420_1, c420_1, e420, hx420_0, hx420_1, hl420_0, hi420_0, hl420_1, hi420_1⟩ := at_T26 (Kd.S_reads' HO_4.out).2.2 x6_1 p420 q420
                      cases e420
                      obtain ⟨ce420, hce420, hMe420, hcc420⟩ := Kd.S_get HO_4.out z26 x6_1 p420 (by first | exact q420 | exact of_decide_eq_true (by first | (with_reducible assumption) | assumption) | (have e_ := (Kd.S_reads' HO_4.out).1; omega))
                      obtain ⟨ve420_0, ve420_1, rfl, ge420_0, ge420_1⟩ := k26_openM hMe420
                      have hv420_0 := hcc420 0 _ rfl
                      rw [Nat.add_zero] at hv420_0
                      replace hv420_0 := Option.some.inj (hv420_0.symm.trans hx420_0)
                      rw [hv420_0] at ge420_0
                      have HL420_0 := Aside0.mk (show Kd.R (Kd.int .i64) 3 _ _ _ _ ((rd_T26 t410 x6_1).f0) from ge420_0)
                      clear hv420_0 ge420_0
                      have hv420_1 := hcc420 1 _ rfl
                      rw [add_field _ _ 1 (by omega)] at hv420_1
                      replace hv420_1 := Option.some.inj (hv420_1.symm.trans hx420_1)
                      rw [hv420_1] at ge420_1
                      have HL420_1 := Aside0.mk (show Kd.R (Kd.int .i64) 3 _ _ _ _ ((rd_T26 t410 x6_1).f1) from ge420_1)
                      clear hv420_1 ge420_1
                      clear hcc420 hce420
                      have HR420_0 := Aside0.mk hi420_0
                      have HC420_0 := Aside0.mk hl420_0
                      clear hi420_0 hl420_0
                      have HR420_1 := Aside0.mk hi420_1
                      have HC420_1 := Aside0.mk hl420_1
                      clear hi420_1 hl420_1
                      replace p420 := eq_true p420
                      replace q420 := eq_true q420
                      have p422 : 0 ≤ (x6_1 : Int) := of_decide_eq_true (by first | (with_reducible assumption) | assumption)
                      have q422 : x6_1 < (t410.length : Int) := of_decide_eq_true (by first | (with_reducible assumption) | assumption)
                      obtain ⟨ad422, A422_0, c422_0, A422_1, c422_1, e422, hx422_0, hx422_1, hl422_0, hi422_0, hl422_1, hi422_1⟩ := at_T26 (Kd.S_reads' HO_4.out).2.2 x6_1 p422 q422
                      obtain rfl : ad420 = ad422 := (by injection e422)
                      obtain ⟨ce422, hce422, hMe422, hcc422⟩ := Kd.S_get HO_4.out z26 x6_1 p422 (by first | exact q422 | exact of_decide_eq_true (by first | (with_reducible assumption) | assumption) | (have e_ := (Kd.S_reads' HO_4.out).1; omega))
                      obtain ⟨ve422_0, ve422_1, rfl, ge422_0, ge422_1⟩ := k26_openM hMe422
                      have hv422_0 := hcc422 0 _ rfl
                      rw [Nat.add_zero] at hv422_0
                      replace hv422_0 := Option.some.inj (hv422_0.symm.trans hx422_0)
                      rw [hv422_0] at ge422_0
                      have HL422_0 := Aside0.mk (show Kd.R (Kd.int .i64) 3 _ _ _ _ ((rd_T26 t410 x6_1).f0) from ge422_0)
                      clear hv422_0 ge422_0
                      have hv422_1 := hcc422 1 _ rfl
                      rw [add_field _ _ 1 (by omega)] at hv422_1
                      replace hv422_1 := Option.some.inj (hv422_1.symm.trans hx422_1)
                      rw [hv422_1] at ge422_1
                      have HL422_1 := Aside0.mk (show Kd.R (Kd.int .i64) 3 _ _ _ _ ((rd_T26 t410 x6_1).f1) from ge422_1)
                      clear hv422_1 ge422_1
                      clear hcc422 hce422
                      have HR422_0 := Aside0.mk hi422_0
                      have HC422_0 := Aside0.mk hl422_0
                      clear hi422_0 hl422_0
                      have HR422_1 := Aside0.mk hi422_1
                      have HC422_1 := Aside0.mk hl422_1
                      clear hi422_1 hl422_1
                      replace p422 := eq_true p422
                      replace q422 := eq_true q422
                      refine start_ (n := 19) (S := fun w' => w'.cell? ⟨gb409, 0, none⟩ = some (.slice Ao29 t403.length co29) ∧ w'.cell? ⟨gb409, 1, none⟩ = some (.slice Ao31 t406.length co31) ∧ w'.cell? (ad420.add ((x6_1).toNat * 2)) = some (.slice A420_0 ((rd_T26 t410 x6_1).f0).length c420_0) ∧ w'.cell? ⟨(ad420.add ((x6_1).toNat * 2)).block, (ad420.add ((x6_1).toNat * 2)).off + 1, none⟩ = some (.slice A420_1 ((rd_T26 t410 x6_1).f1).length c420_1) ∧ w'.cell? (ad420.add ((x6_1).toNat * 2)) = some (.slice A422_0 ((rd_T26 t410 x6_1).f0).length c422_0) ∧ w'.cell? ⟨(ad420.add ((x6_1).toNat * 2)).block, (ad420.add ((x6_1).toNat * 2)).off + 1, none⟩ = some (.slice A422_1 ((rd_T26 t410 x6_1).f1).length c422_1)) (ds := []) #[false, false, false, false, false, false, false, false, false, false, false, false, false, false, false, false, false, false, false] (by kernel_rfl) rfl rfl ⟨(blk_cell BK409.out 0).trans rfl, (blk_cell BK409.out 1).trans rfl, hx420_0, hx420_1, hx422_0, hx422_1⟩ (fun hHeld => ?_); refine with_tabW laws_FnRows.tab15 laws_FnRows.bits15 (fun HT_ HW_ => ?_)
                      generalize wr.drew = w45 at HO_4 HO_410000 HO_410001 BK409 HB HL420_0 HL420_1 HL422_0 HL422_1 HR420_0 HR420_1 HR422_0 HR422_1 hx420_0 hx420_1 hx422_0 hx422_1 hHeld ⊢
                      refine pure_ (i := 0) (N := some 51) (v := ?_) (a' := ?_) #[true, false, false, false, false, false, false, false, false, false, false, false, false, false, false, false, false, false, false] rfl rfl (any_of HT_.out (by kernel_rfl)) (fun _ _ _ h => h) (Or.inl ⟨by rfl, ?_⟩) ?_ ?_
                      rotate_left
                      · intro w'
                        go_simp
                        with_reducible rfl
                      rotate_left
                      · simp only [Act.put, List.setIfInBounds_toArray, List.set_cons_zero, List.set_cons_succ, i64_w, i32_w]
                        rfl
                      refine pure_ (i := 1) (N := some 52) (v := ?_) (a' := ?_) #[true, true, false, false, false, false, false, false, false, false, false, false, false, false, false, false, false, false, false] rfl rfl (any_of HT_.out (by kernel_rfl)) (fun _ _ _ h => h) (Or.inl ⟨by rfl, ?_⟩) ?_ ?_
                      rotate_left
                      · intro w'
                        go_simp
                        with_reducible rfl
                      rotate_left
                      · simp only [Act.put, List.setIfInBounds_toArray, List.set_cons_zero, List.set_cons_succ, i64_w, i32_w]
                        rfl
                      refine pure_ (i := 2) (N := some 53) (v := ?_) (a' := ?_) #[true, true, true, false, false, false, false, false, false, false, false, false, false, false, false, false, false, false, false] rfl rfl (any_of HT_.out (by kernel_rfl)) (fun _ _ _ h => h) (Or.inl ⟨by rfl, ?_⟩) ?_ ?_
                      rotate_left
                      · intro w'
                        go_simp
                        with_reducible rfl
                      rotate_left
                      · simp only [Act.put, List.setIfInBounds_toArray, List.set_cons_zero, List.set_cons_succ, i64_w, i32_w]
                        rfl
                      refine take_ (i := 3) (N := some 54) (v := ?_) (a' := ?_) #[true, true, true, true, false, false, false, false, false, false, false, false, false, false, false, false, false, false, false] rfl rfl (take_ofW HT_.out HW_.out (by kernel_rfl)) (fun _ _ _ h => h) (Or.inl ⟨by rfl, ?_⟩) hHeld ?_ ?_
                      rotate_left
                      · rintro w' ⟨s0, s1, s2, s3, s4, s5⟩
                        go_simp
                        with_reducible rfl
                      rotate_left
                      · simp only [Act.put, List.setIfInBounds_toArray, List.set_cons_zero, List.set_cons_succ, i64_w, i32_w]
                        rfl
                      refine one_ (i := 4) (N := some 55) #[true, true, true, true, true, false, false, false, false, false, false, false, false, false, false, false, false, false, false] rfl rfl (one_of HT_.out (by kernel_rfl)) (by decide) (fun K hK => ?_)
                      refine goes_ Try.func36 (by kernel_rfl) rfl #[.agg #[.slice A420_0 ((rd_T26 t410 x6_1).f0).length c420_0, .slice A420_1 ((rd_T26 t410 x6_1).f1).length c420_1]] (by rfl) rfl rfl (by (try simp only [List.map_toArray, List.map_cons, List.map_nil]); first | done | rfl | (simp only [List.length_drop, List.length_take]; rfl)) ?_
                      with_reducible refine (impl_ArrayOk.calls k1 _ _ ((rd_T26 t410 x6_1).f0) _ _ ((rd_T26 t410 x6_1).f1) true _ ?side1 ?side2 ?side3 ?side4 A43.out).mono ?_
                      (case side1 => repeat (first | exact (by repeat (first | (with_reducible exact HR420_0.out) | (with_reducible refine Kd.C_alloc ?_ _) | (with_reducible refine Kd.C_drewN ?_ _) | (with_reducible refine Kd.C_drew ?_) | exact HR420_0.out)) | (with_reducible refine Kd.C_alloc ?_ _) | (with_reducible refine Kd.C_drewN ?_ _) | (with_reducible refine Kd.C_drew ?_)))
                      (case side2 => exact HC420_0.out)
                      (case side3 => repeat (first | exact (by repeat (first | (with_reducible exact HR420_1.out) | (with_reducible refine Kd.C_alloc ?_ _) | (with_reducible refine Kd.C_drewN ?_ _) | (with_reducible refine Kd.C_drew ?_) | exact HR420_1.out)) | (with_reducible refine Kd.C_alloc ?_ _) | (with_reducible refine Kd.C_drewN ?_ _) | (with_reducible refine Kd.C_drew ?_)))
                      (case side4 => exact HC420_1.out)
                      rintro e w46 ⟨rfl, hb⟩
                      have HS2_ := (hb.cell (World.block_lt_of_cell? _ _ (hHeld.2.2.1))).trans (hHeld.2.2.1)
                      have HS3_ := (hb.cell (World.block_lt_of_cell? _ _ (hHeld.2.2.2.1))).trans (hHeld.2.2.2.1)
                      have HS4_ := (hb.cell (World.block_lt_of_cell? _ _ (hHeld.2.2.2.2.1))).trans (hHeld.2.2.2.2.1)
                      have HS5_ := (hb.cell (World.block_lt_of_cell? _ _ (hHeld.2.2.2.2.2))).trans (hHeld.2.2.2.2.2)
                      refine ⟨_, rfl, ?_⟩
                      have n0_ := Aside0.mk (Kd.S_below (by (with_reducible repeat (first | apply Kd.S_alloc | apply Kd.S_drewN | apply Kd.S_drew)); exact HO_4.out) hb)
                      have n1_ := Aside0.mk (Kd.R_below (by (with_reducible repeat (first | apply Kd.R_alloc | apply Kd.R_drewN | apply Kd.R_drew)); exact HO_410000.out) hb)
                      have n2_ := Aside0.mk (Kd.R_below (by (with_reducible repeat (first | apply Kd.R_alloc | apply Kd.R_drewN | apply Kd.R_drew)); exact HO_410001.out) hb)
                      have n3_ := Aside0.mk (Kd.R_below (by (with_reducible repeat (first | apply Kd.R_alloc | apply Kd.R_drewN | apply Kd.R_drew)); exact HL420_0.out) hb)
                      have n4_ := Aside0.mk (Kd.R_below (by (with_reducible repeat (first | apply Kd.R_alloc | apply Kd.R_drewN | apply Kd.R_drew)); exact HL420_1.out) hb)
                      have n5_ := Aside0.mk (blk_below (g := gb409) (o := .cells #[.slice Ao29 t403.length co29, .slice Ao31 t406.length co31] 26 (0, 0)) (by (with_reducible repeat (first | refine blk_drewN ?_ _ | refine blk_drew ?_ | refine blk_alloc ?_ _)); exact BK409.out) hb)
                      have n6_ := Aside0.mk (Kd.C_below (by repeat (first | (with_reducible exact HR420_0.out) | (with_reducible refine Kd.C_alloc ?_ _) | (with_reducible refine Kd.C_drewN ?_ _) | (with_reducible refine Kd.C_drew ?_) | exact HR420_0.out)) hb)
                      have n7_ := Aside0.mk (Kd.C_below (by repeat (first | (with_reducible exact HR420_1.out) | (with_reducible refine Kd.C_alloc ?_ _) | (with_reducible refine Kd.C_drewN ?_ _) | (with_reducible refine Kd.C_drew ?_) | exact HR420_1.out)) hb)
                      have n8_ := Aside0.mk (below_step (by repeat (first | (with_reducible first | exact HB.out | apply below_alloc | apply pw_below_drewN | apply below_drew1 | refine below_set ?_ GE409.out) | exact HB.out)) hb)
                      clear HO_4 HO_410000 HO_410001 HL420_0 HL420_1 BK409 HR420_0 HR420_1 HB
                      have HO_4 := n0_
                      have HO_410000 := n1_
                      have HO_410001 := n2_
                      have HL420_0 := n3_
                      have HL420_1 := n4_
                      have BK409 := n5_
                      have HR420_0 := n6_
                      have HR420_1 := n7_
                      have HB := n8_
                      clear n0_ n1_ n2_ n3_ n4_ n5_ n6_ n7_ n8_
                      (try clear hb)
                      (try clear hb2)
                      (try clear hk)
                      (try clear hi)
                      refine hK.out _ _ ⟨(blk_cell BK409.out 0).trans rfl, (blk_cell BK409.out 1).trans rfl, HS2_, HS3_, HS4_, HS5_⟩ (fun hHeld => ?_)
                      clear hK K
                      refine norm_ (a' := ?_) ?_ ?_
                      rotate_left
                      · show Act.put _ (some 55) _ = _
                        simp only [Act.put, List.setIfInBounds_toArray, List.set_cons_zero, List.set_cons_succ, i64_w, i32_w]
                        rfl
                      refine pure_ (i := 5) (N := some 56) (v := ?_) (a' := ?_) #[true, true, true, true, true, true, false, false, false, false, false, false, false, false, false, false, false, false, false] rfl rfl (any_of HT_.out (by kernel_rfl)) (fun _ _ _ h => h) (Or.inl ⟨by rfl, ?_⟩) ?_ ?_
                      rotate_left
                      · intro w'
                        go_simp
                        with_reducible rfl
                      rotate_left
                      · simp only [Act.put, List.setIfInBounds_toArray, List.set_cons_zero, List.set_cons_succ, i64_w, i32_w]
                        rfl
                      refine pure_ (i := 6) (N := some 57) (v := ?_) (a' := ?_) #[true, true, true, true, true, true, true, false, false, false, false, false, false, false, false, false, false, false, false] rfl rfl (any_of HT_.out (by kernel_rfl)) (fun _ _ _ h => h) (Or.inl ⟨by rfl, ?_⟩) ?_ ?_
                      rotate_left
                      · intro w'
                        go_simp
                        with_reducible rfl
                      rotate_left
                      · simp only [Act.put, List.setIfInBounds_toArray, List.set_cons_zero, List.set_cons_succ, i64_w, i32_w]
                        rfl
                      refine pure_ (i := 7) (N := some 58) (v := ?_) (a' := ?_) #[true, true, true, true, true, true, true, true, false, false, false, false, false, false, false, false, false, false, false] rfl rfl (any_of HT_.out (by kernel_rfl)) (fun _ _ _ h => h) (Or.inl ⟨by rfl, ?_⟩) ?_ ?_
                      rotate_left
                      · intro w'
                        go_simp
                        with_reducible rfl
                      rotate_left
                      · simp only [Act.put, List.setIfInBounds_toArray, List.set_cons_zero, List.set_cons_succ, i64_w, i32_w]
                        rfl
                      refine pure_ (i := 8) (N := some 59) (v := ?_) (a' := ?_) #[true, true, true, true, true, true, true, true, true, false, false, false, false, false, false, false, false, false, false] rfl rfl (any_of HT_.out (by kernel_rfl)) (fun _ _ _ h => h) (Or.inl ⟨by rfl, ?_⟩) ?_ ?_
                      rotate_left
                      · intro w'
                        go_simp
                        with_reducible rfl
                      rotate_left
                      · simp only [Act.put, List.setIfInBounds_toArray, List.set_cons_zero, List.set_cons_succ, i64_w, i32_w]
                        rfl
                      refine pure_ (i := 9) (N := some 60) (v := ?_) (a' := ?_) #[true, true, true, true, true, true, true, true, true, true, false, false, false, false, false, false, false, false, false] rfl rfl (any_of HT_.out (by kernel_rfl)) (fun _ _ _ h => h) (Or.inl ⟨by rfl, ?_⟩) ?_ ?_
                      rotate_left
                      · intro w'
                        go_simp
                        with_reducible rfl
                      rotate_left
                      · simp only [Act.put, List.setIfInBounds_toArray, List.set_cons_zero, List.set_cons_succ, i64_w, i32_w]
                        rfl
                      refine pure_ (i := 10) (N := some 61) (v := ?_) (a' := ?_) #[true, true, true, true, true, true, true, true, true, true, true, false, false, false, false, false, false, false, false] rfl rfl (any_of HT_.out (by kernel_rfl)) (fun _ _ _ h => h) (Or.inl ⟨by rfl, ?_⟩) ?_ ?_
                      rotate_left
                      · intro w'
                        go_simp
                        with_reducible rfl
                      rotate_left
                      · simp only [Act.put, List.setIfInBounds_toArray, List.set_cons_zero, List.set_cons_succ, i64_w, i32_w]
                        rfl
                      refine pure_ (i := 13) (N := some 64) (v := ?_) (a' := ?_) #[true, true, true, true, true, true, true, true, true, true, true, false, false, true, false, false, false, false, false] rfl rfl (any_of HT_.out (by kernel_rfl)) (fun _ _ _ h => h) (Or.inl ⟨by rfl, ?_⟩) ?_ ?_
                      rotate_left
                      · intro w'
                        go_simp
                        with_reducible rfl
                      rotate_left
                      · simp only [Act.put, List.setIfInBounds_toArray, List.set_cons_zero, List.set_cons_succ, i64_w, i32_w]
                        rfl
                      refine take_ (i := 11) (N := some 62) (v := ?_) (a' := ?_) #[true, true, true, true, true, true, true, true, true, true, true, true, false, true, false, false, false, false, false] rfl rfl (take_ofW HT_.out HW_.out (by kernel_rfl)) (fun _ _ _ h => h) (Or.inl ⟨by rfl, ?_⟩) hHeld ?_ ?_
                      rotate_left
                      · rintro w' ⟨s0, s1, s2, s3, s4, s5⟩
                        go_simp
                        with_reducible rfl
                      rotate_left
                      · simp only [Act.put, List.setIfInBounds_toArray, List.set_cons_zero, List.set_cons_succ, i64_w, i32_w]
                        rfl
                      refine pure_ (i := 12) (N := some 63) (v := ?_) (a' := ?_) #[true, true, true, true, true, true, true, true, true, true, true, true, true, true, false, false, false, false, false] rfl rfl (any_of HT_.out (by kernel_rfl)) (fun _ _ _ h => h) (Or.inl ⟨by rfl, ?_⟩) ?_ ?_
                      rotate_left
                      · intro w'
                        go_simp
                        with_reducible rfl
                      rotate_left
                      · simp only [Act.put, List.setIfInBounds_toArray, List.set_cons_zero, List.set_cons_succ, i64_w, i32_w]
                        rfl
                      refine take_ (i := 14) (N := some 65) (v := ?_) (a' := ?_) #[true, true, true, true, true, true, true, true, true, true, true, true, true, true, true, false, false, false, false] rfl rfl (take_ofW HT_.out HW_.out (by kernel_rfl)) (fun _ _ _ h => h) (Or.inl ⟨by rfl, ?_⟩) hHeld ?_ ?_
                      rotate_left
                      · rintro w' ⟨s0, s1, s2, s3, s4, s5⟩
                        go_simp
                        with_reducible rfl
                      rotate_left
                      · simp only [Act.put, List.setIfInBounds_toArray, List.set_cons_zero, List.set_cons_succ, i64_w, i32_w]
                        rfl
                      refine pure_ (i := 15) (N := some 66) (v := ?_) (a' := ?_) #[true, true, true, true, true, true, true, true, true, true, true, true, true, true, true, true, false, false, false] rfl rfl (any_of HT_.out (by kernel_rfl)) (fun _ _ _ h => h) (Or.inl ⟨by rfl, ?_⟩) ?_ ?_
                      rotate_left
                      · intro w'
                        go_simp
                        with_reducible rfl
                      rotate_left
                      · simp only [Act.put, List.setIfInBounds_toArray, List.set_cons_zero, List.set_cons_succ, i64_w, i32_w]
                        rfl
                      refine pure_ (i := 16) (N := some 67) (v := ?_) (a' := ?_) #[true, true, true, true, true, true, true, true, true, true, true, true, true, true, true, true, true, false, false] rfl rfl (any_of HT_.out (by kernel_rfl)) (fun _ _ _ h => h) (Or.inl ⟨by rfl, ?_⟩) ?_ ?_
                      rotate_left
                      · intro w'
                        go_simp
                        with_reducible rfl
                      rotate_left
                      · simp only [Act.put, List.setIfInBounds_toArray, List.set_cons_zero, List.set_cons_succ, i64_w, i32_w]
                        rfl
                      refine pure_ (i := 17) (N := some 68) (v := ?_) (a' := ?_) #[true, true, true, true, true, true, true, true, true, true, true, true, true, true, true, true, true, true, false] rfl rfl (any_of HT_.out (by kernel_rfl)) (fun _ _ _ h => h) (Or.inl ⟨by rfl, ?_⟩) ?_ ?_
                      rotate_left
                      · intro w'
                        go_simp
                        with_reducible rfl
                      rotate_left
                      · simp only [Act.put, List.setIfInBounds_toArray, List.set_cons_zero, List.set_cons_succ, i64_w, i32_w]
                        rfl
                      refine pure_ (i := 18) (N := some 69) (v := ?_) (a' := ?_) #[true, true, true, true, true, true, true, true, true, true, true, true, true, true, true, true, true, true, true] rfl rfl (any_of HT_.out (by kernel_rfl)) (fun _ _ _ h => h) (Or.inl ⟨by rfl, ?_⟩) ?_ ?_
                      rotate_left
                      · intro w'
                        go_simp
                        with_reducible rfl
                      rotate_left
                      · simp only [Act.put, List.setIfInBounds_toArray, List.set_cons_zero, List.set_cons_succ, i64_w, i32_w]
                        rfl
                      refine done_ (done_of HT_.out (by kernel_rfl)) ?_
                      try go_wp2
                      go_meet
                      case rel => exact ⟨_, (((((rd_T26 t410 x6_1).f0).length : Int) != (wrap64 ((t403.length : Int) - 1)))), (by first | rfl | (simp; done) | (simp [*]; done)), H', ⟨by have := HK1.out; first | omega | exact Nat.le_refl _⟩, ⟨by (with_reducible repeat (first | apply Kd.S_alloc | apply Kd.S_drewN | apply Kd.S_drew)); exact HO_4.out⟩, ⟨by (with_reducible repeat (first | apply Kd.R_alloc | apply Kd.R_drewN | apply Kd.R_drew)); exact HO_410000.out⟩, ⟨by (with_reducible repeat (first | apply Kd.R_alloc | apply Kd.R_drewN | apply Kd.R_drew)); exact HO_410001.out⟩, ⟨by (with_reducible repeat (first | refine blk_drewN ?_ _ | refine blk_drew ?_ | refine blk_alloc ?_ _)); exact BK409.out⟩, ⟨by repeat (first | (with_reducible first | exact HB.out | apply below_alloc | apply pw_below_drewN | apply below_drew1 | refine below_set ?_ GE409.out) | exact HB.out)⟩⟩
                    · replace c44 := Bool.eq_false_iff.mpr c44
                      subst c44
                      have H1 : (laws_FnRows.j1 k1 t410 x5_1 x6_1 true t403 t406) = some r := by rw [if_neg (show ¬ (false = true) by decide)] at H; exact H
                      clear H
                      have H := H1
                      clear H1
                      have hz_ : ∀ kz, laws_FnRows.j1 kz t410 x5_1 x6_1 true t403 t406 = some r → r = false := by intro kz hz; cases kz with | zero => exact absurd hz (by simp [laws_FnRows.j1]) | succ kz => simp only [laws_FnRows.j1] at hz; first | (rw [if_pos rfl] at hz; exact (Option.some.inj hz).symm) | (simp at hz; exact hz.symm) | (simp at hz; exact hz)
                      exact absurd (HT.out.symm.trans (hz_ _ H)) (by decide)
                  · rw [if_neg c42] at H
                    exact absurd H (by simp)
                case rest =>
                  clear HC41
                  try clear c1
                  try clear c2
                  try clear p2
                  try clear c3
                  try clear c4
                  try clear p4
                  try clear q4
                  try clear hx4
                  try clear c6
                  try clear p6
                  try clear c7
                  try clear c7b0
                  try clear c7b1
                  try clear c7b2
                  try clear c9
                  try clear c10
                  try clear c10b0
                  try clear c10b1
                  try clear c10b2
                  try clear c11
                  try clear c11b0
                  try clear c11b1
                  try clear c11b2
                  try clear c22
                  try clear c31
                  try clear c32
                  try clear c33
                  try clear c34
                  try clear c36
                  try clear c40
                  try clear c40b0
                  try clear c42
                  try clear c42b0
                  try clear p42
                  try clear q42
                  try clear hx42
                  try clear c44
                  try clear hcz16_0
                  try clear hcz16_1
                  try clear hcz20_0
                  try clear hcz20_1
                  try clear hcz23_0
                  try clear hcz23_1
                  try clear hcz25_0
                  try clear hcz25_1
                  try clear hcz30_0
                  try clear hcz30_1
                  try clear hcz34_0
                  try clear hcz34_1
                  try clear hcz37_0
                  try clear hcz37_1
                  try clear hcz39_0
                  try clear hcz39_1
                  try clear hfz16_0
                  try clear hfz16_1
                  try clear hfz20_0
                  try clear hfz20_1
                  try clear hfz23_0
                  try clear hfz23_1
                  try clear hfz25_0
                  try clear hfz25_1
                  try clear hfz30_0
                  try clear hfz30_1
                  try clear hfz34_0
                  try clear hfz34_1
                  try clear hfz37_0
                  try clear hfz37_1
                  try clear hfz39_0
                  try clear hfz39_1
                  try clear hx420_0
                  try clear hx420_1
                  try clear hx422_0
                  try clear hx422_1
                  try clear p2
                  try clear p420
                  try clear p422
                  try clear q420
                  try clear q422
                  obtain ⟨kq, x69_40, rfl, HA, HJ40, HO_4, HO_410000, HO_410001, BK409, HB⟩ := hcut
                  cases kq with
                  | zero => exact absurd HA.out (by simp [laws_FnRows.j1])
                  | succ kj40 =>
                    have H := HA.out
                    clear HA
                    simp only [laws_FnRows.j1] at H
                    by_cases c47 : x69_40 = true
                    · subst c47
                      have H1 : (some false) = some r := by rw [if_pos rfl] at H; exact H
                      clear H
                      have H := H1
                      clear H1
                      obtain rfl := Option.some.inj H
                      exact absurd HT.out (by decide)
                    · replace c47 := Bool.eq_false_iff.mpr c47
                      subst c47
                      have H1 : (laws_FnRows.l1 kj40 t410 x5_1 x6_1 0 t403 t406) = some r := by rw [if_neg (show ¬ (false = true) by decide)] at H; exact H
                      clear H
                      have H := H1
                      clear H1
                      have H' := Aside0.mk H
                      clear H
                      go_wp2
                      go_loopg [5, 7] kj40 (fun kq v5 v7 w' => ∃ (x5_3 : Int) (x7_3 : Int), v5 = .int .i64 x5_3 ∧ v7 = .int .i64 x7_3 ∧ Aside0 (laws_FnRows.l1 kq t410 x5_3 x6_1 x7_3 t403 t406 = some r) ∧ Aside0 (kq ≤ kj40) ∧ Aside0 (Kd.S k26 26 w' w.heap.size (fun k_ => some k_ ≠ ((.slice Ao29 t403.length co29) : Value).ownBlock ∧ some k_ ≠ ((.slice Ao31 t406.length co31) : Value).ownBlock ∧ k_ ≠ gb409) (.slice Ao33 t410.length co33) t410) ∧ Aside0 (Kd.R (Kd.int .i64) 3 w' w.heap.size (fun k_ => some k_ ≠ ((.slice Ao31 t406.length co31) : Value).ownBlock) (.slice Ao29 t403.length co29) t403) ∧ Aside0 (Kd.R (Kd.int .i64) 3 w' w.heap.size (fun k_ => some k_ ≠ ((.slice Ao29 t403.length co29) : Value).ownBlock) (.slice Ao31 t406.length co31) t406) ∧ Aside0 (w'.heap[gb409]? = some (.cells #[(.slice Ao29 t403.length co29), (.slice Ao31 t406.length co31)] 26 (0, 0))) ∧ Aside0 (Below w.heap.size w w'))
                      case atStart => exact ⟨(x5_1), (0), (by first | rfl | (simp; done) | (simp [*]; done)), (by first | rfl | (simp; done) | (simp [*]; done)), H', ⟨Nat.le_refl _⟩, ⟨by (with_reducible repeat (first | apply Kd.S_alloc | apply Kd.S_drewN | apply Kd.S_drew)); exact HO_4.out⟩, ⟨by (with_reducible repeat (first | apply Kd.R_alloc | apply Kd.R_drewN | apply Kd.R_drew)); exact HO_410000.out⟩, ⟨by (with_reducible repeat (first | apply Kd.R_alloc | apply Kd.R_drewN | apply Kd.R_drew)); exact HO_410001.out⟩, ⟨by (with_reducible repeat (first | refine blk_drewN ?_ _ | refine blk_drew ?_ | refine blk_alloc ?_ _)); exact BK409.out⟩, ⟨by repeat (first | (with_reducible first | exact HB.out | apply below_alloc | apply pw_below_drewN | apply below_drew1 | refine below_set ?_ GE409.out) | exact HB.out)⟩⟩
                      case round =>
                        clear H'
                        try clear c1
                        try clear c2
                        try clear p2
                        try clear c3
                        try clear c4
                        try clear p4
                        try clear q4
                        try clear hx4
                        try clear c6
                        try clear p6
                        try clear c7
                        try clear c7b0
                        try clear c7b1
                        try clear c7b2
                        try clear c9
                        try clear c10
                        try clear c10b0
                        try clear c10b1
                        try clear c10b2
                        try clear c11
                        try clear c11b0
                        try clear c11b1
                        try clear c11b2
                        try clear c22
                        try clear c31
                        try clear c32
                        try clear c33
                        try clear c34
                        try clear c36
                        try clear c40
                        try clear c40b0
                        try clear c42
                        try clear c42b0
                        try clear p42
                        try clear q42
                        try clear hx42
                        try clear c44
                        try clear c47
                        try clear hcz16_0
                        try clear hcz16_1
                        try clear hcz20_0
                        try clear hcz20_1
                        try clear hcz23_0
                        try clear hcz23_1
                        try clear hcz25_0
                        try clear hcz25_1
                        try clear hcz30_0
                        try clear hcz30_1
                        try clear hcz34_0
                        try clear hcz34_1
                        try clear hcz37_0
                        try clear hcz37_1
                        try clear hcz39_0
                        try clear hcz39_1
                        try clear hfz16_0
                        try clear hfz16_1
                        try clear hfz20_0
                        try clear hfz20_1
                        try clear hfz23_0
                        try clear hfz23_1
                        try clear hfz25_0
                        try clear hfz25_1
                        try clear hfz30_0
                        try clear hfz30_1
                        try clear hfz34_0
                        try clear hfz34_1
                        try clear hfz37_0
                        try clear hfz37_1
                        try clear hfz39_0
                        try clear hfz39_1
                        try clear hx420_0
                        try clear hx420_1
                        try clear hx422_0
                        try clear hx422_1
                        try clear p2
                        try clear p4
                        try clear p42
                        try clear p420
                        try clear p422
                        try clear p6
                        try clear q4
                        try clear q42
                        try clear q420
                        try clear q422
                        obtain ⟨x5_3, x7_3, rfl, rfl, HA, HK3, HO_4, HO_410000, HO_410001, BK409, HB⟩ := hrel
                        cases gk with
                        | zero => exact absurd HA.out (by simp [laws_FnRows.l1])
                        | succ k3 =>
                          have H := HA.out
                          clear HA
                          simp only [laws_FnRows.l1] at H
                          by_cases c48 : 0 ≤ x6_1
                          · rw [if_pos c48] at H
                            have c48b0 : decide (0 ≤ x6_1) = true := decide_eq_true c48
                            clear c48
                            by_cases c49 : x6_1 < (t410.length : Int)
                            · rw [if_pos c49] at H
                              have c49b0 : decide (x6_1 < (t410.length : Int)) = true := decide_eq_true c49
                              clear c49
                              by_cases c50 : x7_3 < (((rd_T26 t410 x6_1).f1).length : Int)
                              · rw [if_pos c50] at H
                                have c50b0 : decide (x7_3 < (((rd_T26 t410 x6_1).f1).length : Int)) = true := decide_eq_true c50
                                clear c50
                                replace H := Option.bind_eq_some_iff.mp H
                                obtain ⟨t424, A510, H⟩ := H
                                replace H : ((impl_NumAt.f k3 t403 t406 t424).bind fun bt427 => (if bt427.2 = true then (if 0 ≤ x7_3 then (if bt427.1 = (rd ((rd_T26 t410 x6_1).f1) x7_3) then (if 0 ≤ x5_3 then (if x5_3 < (t406.length : Int) then (if bt427.1 = (rd t406 x5_3) then (laws_FnRows.l1 k3 t410 (wrap64 (x5_3 + 1)) x6_1 (wrap64 (x7_3 + 1)) t403 t406) else (some false)) else (none)) else (none)) else (some false)) else (none)) else (some false))) = some r := H
                                have A51 := Aside0.mk A510
                                clear A510
                                replace H := Option.bind_eq_some_iff.mp H
                                obtain ⟨⟨t427, t428⟩, A520, H⟩ := H
                                replace H : (if t428 = true then (if 0 ≤ x7_3 then (if t427 = (rd ((rd_T26 t410 x6_1).f1) x7_3) then (if 0 ≤ x5_3 then (if x5_3 < (t406.length : Int) then (if t427 = (rd t406 x5_3) then (laws_FnRows.l1 k3 t410 (wrap64 (x5_3 + 1)) x6_1 (wrap64 (x7_3 + 1)) t403 t406) else (some false)) else (none)) else (none)) else (some false)) else (none)) else (some false)) = some r := H
                                have A52 := Aside0.mk A520
                                clear A520
                                by_cases c53 : t428 = true
                                · subst c53
                                  have H1 : (if 0 ≤ x7_3 then (if t427 = (rd ((rd_T26 t410 x6_1).f1) x7_3) then (if 0 ≤ x5_3 then (if x5_3 < (t406.length : Int) then (if t427 = (rd t406 x5_3) then (laws_FnRows.l1 k3 t410 (wrap64 (x5_3 + 1)) x6_1 (wrap64 (x7_3 + 1)) t403 t406) else (some false)) else (none)) else (none)) else (some false)) else (none)) = some r := by rw [if_pos rfl] at H; exact H
                                  clear H
                                  have H := H1
                                  clear H1
                                  by_cases c54 : 0 ≤ x7_3
                                  · rw [if_pos c54] at H
                                    have c54b0 : decide (0 ≤ x7_3) = true := decide_eq_true c54
                                    clear c54
                                    by_cases c55 : t427 = (rd ((rd_T26 t410 x6_1).f1) x7_3)
                                    · rw [if_pos c55] at H
                                      have c55b0 : (t427 == (rd ((rd_T26 t410 x6_1).f1) x7_3)) = true := beq_iff_eq.mpr c55
                                      have c55b1 : (t427 != (rd ((rd_T26 t410 x6_1).f1) x7_3)) = false := bne_eq_false_iff_eq.mpr c55
                                      clear c55
                                      by_cases c56 : 0 ≤ x5_3
                                      · rw [if_pos c56] at H
                                        have c56b0 : decide (0 ≤ x5_3) = true := decide_eq_true c56
                                        clear c56
                                        by_cases c57 : x5_3 < (t406.length : Int)
                                        · rw [if_pos c57] at H
                                          have c57b0 : decide (x5_3 < (t406.length : Int)) = true := decide_eq_true c57
                                          clear c57
                                          by_cases c58 : t427 = (rd t406 x5_3)
                                          · rw [if_pos c58] at H
                                            have c58b0 : (t427 == (rd t406 x5_3)) = true := beq_iff_eq.mpr c58
                                            have c58b1 : (t427 != (rd t406 x5_3)) = false := bne_eq_false_iff_eq.mpr c58
                                            clear c58
                                            have H' := Aside0.mk H
                                            clear H
                                            have p423 : 0 ≤ (x6_1 : Int) := of_decide_eq_true (by first | (with_reducible assumption) | assumption)
                                            have q423 : x6_1 < (t410.length : Int) := of_decide_eq_true (by first | (with_reducible assumption) | assumption)
                                            obtain ⟨ad423, A423_0, c423_0, A423_1, c423_1, e423, hx423_0, hx423_1, hl423_0, hi423_0, hl423_1, hi423_1⟩ := at_T26 (Kd.S_reads' HO_4.out).2.2 x6_1 p423 q423
                                            cases e423
                                            obtain ⟨ce423, hce423, hMe423, hcc423⟩ := Kd.S_get HO_4.out z26 x6_1 p423 (by first | exact q423 | exact of_decide_eq_true (by first | (with_reducible assumption) | assumption) | (have e_ := (Kd.S_reads' HO_4.out).1; omega))
                                            obtain ⟨ve423_0, ve423_1, rfl, ge423_0, ge423_1⟩ := k26_openM hMe423
                                            have hv423_0 := hcc423 0 _ rfl
                                            rw [Nat.add_zero] at hv423_0
                                            replace hv423_0 := Option.some.inj (hv423_0.symm.trans hx423_0)
                                            rw [hv423_0] at ge423_0
                                            have HL423_0 := Aside0.mk (show Kd.R (Kd.int .i64) 3 _ _ _ _ ((rd_T26 t410 x6_1).f0) from ge423_0)
                                            clear hv423_0 ge423_0
                                            have hv423_1 := hcc423 1 _ rfl
                                            rw [add_field _ _ 1 (by omega)] at hv423_1
                                            replace hv423_1 := Option.some.inj (hv423_1.symm.trans hx423_1)
                                            rw [hv423_1] at ge423_1
                                            have HL423_1 := Aside0.mk (show Kd.R (Kd.int .i64) 3 _ _ _ _ ((rd_T26 t410 x6_1).f1) from ge423_1)
                                            clear hv423_1 ge423_1
                                            clear hcc423 hce423
                                            have HR423_0 := Aside0.mk hi423_0
                                            have HC423_0 := Aside0.mk hl423_0
                                            clear hi423_0 hl423_0
                                            have HR423_1 := Aside0.mk hi423_1
                                            have HC423_1 := Aside0.mk hl423_1
                                            clear hi423_1 hl423_1
                                            replace p423 := eq_true p423
                                            replace q423 := eq_true q423
                                            try go_wp2
                                            have n0_ := Aside0.mk (Kd.S_drew HO_4.out)
                                            have n1_ := Aside0.mk (Kd.R_drew HO_410000.out)
                                            have n2_ := Aside0.mk (Kd.R_drew HO_410001.out)
                                            have n3_ := Aside0.mk (Kd.R_drew HL423_0.out)
                                            have n4_ := Aside0.mk (Kd.R_drew HL423_1.out)
                                            have n5_ := Aside0.mk (blk_drew BK409.out)
                                            have n6_ := Aside0.mk (Kd.C_drew HR423_0.out)
                                            have n7_ := Aside0.mk (Kd.C_drew HR423_1.out)
                                            have n8_ := Aside0.mk (below_drew1 HB.out)
                                            clear HO_4 HO_410000 HO_410001 HL423_0 HL423_1 BK409 HR423_0 HR423_1 HB
                                            have HO_4 := n0_
                                            have HO_410000 := n1_
                                            have HO_410001 := n2_
                                            have HL423_0 := n3_
                                            have HL423_1 := n4_
                                            have BK409 := n5_
                                            have HR423_0 := n6_
                                            have HR423_1 := n7_
                                            have HB := n8_
                                            clear n0_ n1_ n2_ n3_ n4_ n5_ n6_ n7_ n8_
                                            refine start_ (n := 11) (S := fun w' => w'.cell? ⟨gb409, 0, none⟩ = some (.slice Ao29 t403.length co29) ∧ w'.cell? ⟨gb409, 1, none⟩ = some (.slice Ao31 t406.length co31)) (ds := []) #[false, false, false, false, false, false, false, false, false, false, false] (by kernel_rfl) rfl rfl ⟨(blk_cell BK409.out 0).trans rfl, (blk_cell BK409.out 1).trans rfl⟩ (fun hHeld => ?_); refine with_tabW laws_FnRows.tab20 laws_FnRows.bits20 (fun HT_ HW_ => ?_)
                                            generalize wr.drew = w59 at HO_4 HO_410000 HO_410001 HL423_0 HL423_1 BK409 HR423_0 HR423_1 HB hHeld ⊢
                                            refine pure_ (i := 1) (N := some 82) (v := ?_) (a' := ?_) #[false, true, false, false, false, false, false, false, false, false, false] rfl rfl (any_of HT_.out (by kernel_rfl)) (fun _ _ _ h => h) (Or.inl ⟨by rfl, ?_⟩) ?_ ?_
                                            rotate_left
                                            · intro w'
                                              go_simp
                                              with_reducible rfl
                                            rotate_left
                                            · simp only [Act.put, List.setIfInBounds_toArray, List.set_cons_zero, List.set_cons_succ, i64_w, i32_w]
                                              rfl
                                            refine pure_ (i := 3) (N := some 84) (v := ?_) (a' := ?_) #[false, true, false, true, false, false, false, false, false, false, false] rfl rfl (any_of HT_.out (by kernel_rfl)) (fun _ _ _ h => h) (Or.inl ⟨by rfl, ?_⟩) ?_ ?_
                                            rotate_left
                                            · intro w'
                                              go_simp
                                              with_reducible rfl
                                            rotate_left
                                            · simp only [Act.put, List.setIfInBounds_toArray, List.set_cons_zero, List.set_cons_succ, i64_w, i32_w]
                                              rfl
                                            refine take_ (i := 0) (N := some 81) (v := ?_) (a' := ?_) #[true, true, false, true, false, false, false, false, false, false, false] rfl rfl (take_ofW HT_.out HW_.out (by kernel_rfl)) (fun _ _ _ h => h) (Or.inl ⟨by rfl, ?_⟩) hHeld ?_ ?_
                                            rotate_left
                                            · rintro w' ⟨s0, s1⟩
                                              go_simp
                                              with_reducible rfl
                                            rotate_left
                                            · simp only [Act.put, List.setIfInBounds_toArray, List.set_cons_zero, List.set_cons_succ, i64_w, i32_w]
                                              rfl
                                            refine take_ (i := 2) (N := some 83) (v := ?_) (a' := ?_) #[true, true, true, true, false, false, false, false, false, false, false] rfl rfl (take_ofW HT_.out HW_.out (by kernel_rfl)) (fun _ _ _ h => h) (Or.inl ⟨by rfl, ?_⟩) hHeld ?_ ?_
                                            rotate_left
                                            · rintro w' ⟨s0, s1⟩
                                              go_simp
                                              with_reducible rfl
                                            rotate_left
                                            · simp only [Act.put, List.setIfInBounds_toArray, List.set_cons_zero, List.set_cons_succ, i64_w, i32_w]
                                              rfl
                                            refine one_ (i := 4) (N := some 85) #[true, true, true, true, true, false, false, false, false, false, false] rfl rfl (one_of HT_.out (by kernel_rfl)) (by decide) (fun K hK => ?_)
                                            refine goes_ Try.func38 (by kernel_rfl) rfl #[.slice Ao29 t403.length co29, .int .i64 x5_3] (by rfl) rfl rfl (by (try simp only [List.map_toArray, List.map_cons, List.map_nil]); first | done | rfl | (simp only [List.length_drop, List.length_take]; rfl)) ?_
                                            with_reducible refine (impl_IndexOf.calls k3 _ _ t403 x5_3 t424 _ ?side1 ?side2 A51.out).mono ?_
                                            (case side1 => repeat (first | exact (Kd.R_reads' HO_410000.out).2.2 | (with_reducible refine Kd.C_alloc ?_ _) | (with_reducible refine Kd.C_drewN ?_ _) | (with_reducible refine Kd.C_drew ?_)))
                                            (case side2 => exact (Kd.R_reads' HO_410000.out).2.1)
                                            rintro e w60 ⟨v425, rfl, ho0, hb⟩
                                            refine ⟨_, rfl, ?_⟩
                                            have n0_ := Aside0.mk (Kd.S_elder' (by (with_reducible repeat (first | apply Kd.S_alloc | apply Kd.S_drewN | apply Kd.S_drew)); exact HO_4.out) (Kd.R_base ho0) hb)
                                            have n1_ := Aside0.mk (Kd.R_elder' (by (with_reducible repeat (first | apply Kd.R_alloc | apply Kd.R_drewN | apply Kd.R_drew)); exact HO_410000.out) (Kd.R_base ho0) hb)
                                            have n2_ := Aside0.mk (Kd.R_elder' (by (with_reducible repeat (first | apply Kd.R_alloc | apply Kd.R_drewN | apply Kd.R_drew)); exact HO_410001.out) (Kd.R_base ho0) hb)
                                            have n3_ := Aside0.mk (Kd.R_elder' (by (with_reducible repeat (first | apply Kd.R_alloc | apply Kd.R_drewN | apply Kd.R_drew)); exact HL423_0.out) (Kd.R_base ho0) hb)
                                            have n4_ := Aside0.mk (Kd.R_elder' (by (with_reducible repeat (first | apply Kd.R_alloc | apply Kd.R_drewN | apply Kd.R_drew)); exact HL423_1.out) (Kd.R_base ho0) hb)
                                            have n5_ := Aside0.mk (Kd.R_lower (Kd.R_new' (Kd.R_new' (Kd.R_new' (Kd.R_new' ho0 (Kd.R_lt (by (with_reducible repeat (first | apply Kd.R_alloc | apply Kd.R_drewN | apply Kd.R_drew)); exact HO_410000.out))) (Kd.R_lt (by (with_reducible repeat (first | apply Kd.R_alloc | apply Kd.R_drewN | apply Kd.R_drew)); exact HO_410001.out))) (Kd.R_lt (by (with_reducible repeat (first | apply Kd.R_alloc | apply Kd.R_drewN | apply Kd.R_drew)); exact HL423_0.out))) (Kd.R_lt (by (with_reducible repeat (first | apply Kd.R_alloc | apply Kd.R_drewN | apply Kd.R_drew)); exact HL423_1.out))) (below_size (by repeat (first | (with_reducible first | exact HB.out | apply below_alloc | apply pw_below_drewN | apply below_drew1 | refine below_set ?_ GE409.out) | exact HB.out))))
                                            have n6_ := Aside0.mk (blk_below (g := gb409) (o := .cells #[.slice Ao29 t403.length co29, .slice Ao31 t406.length co31] 26 (0, 0)) (by (with_reducible repeat (first | refine blk_drewN ?_ _ | refine blk_drew ?_ | refine blk_alloc ?_ _)); exact BK409.out) hb)
                                            have n7_ := Aside0.mk (Kd.C_below (by repeat (first | (with_reducible exact HR423_0.out) | (with_reducible refine Kd.C_alloc ?_ _) | (with_reducible refine Kd.C_drewN ?_ _) | (with_reducible refine Kd.C_drew ?_) | exact HR423_0.out)) hb)
                                            have n8_ := Aside0.mk (Kd.C_below (by repeat (first | (with_reducible exact HR423_1.out) | (with_reducible refine Kd.C_alloc ?_ _) | (with_reducible refine Kd.C_drewN ?_ _) | (with_reducible refine Kd.C_drew ?_) | exact HR423_1.out)) hb)
                                            have n9_ := Aside0.mk (below_step (by repeat (first | (with_reducible first | exact HB.out | apply below_alloc | apply pw_below_drewN | apply below_drew1 | refine below_set ?_ GE409.out) | exact HB.out)) hb)
                                            clear HO_4 HO_410000 HO_410001 HL423_0 HL423_1 BK409 HR423_0 HR423_1 HB
                                            have HO_4 := n0_
                                            have HO_410000 := n1_
                                            have HO_410001 := n2_
                                            have HL423_0 := n3_
                                            have HL423_1 := n4_
                                            have HO426 := n5_
                                            have BK409 := n6_
                                            have HR423_0 := n7_
                                            have HR423_1 := n8_
                                            have HB := n9_
                                            clear n0_ n1_ n2_ n3_ n4_ n5_ n6_ n7_ n8_ n9_
                                            (try clear hb)
                                            (try clear hb2)
                                            (try clear hk)
                                            (try clear hi)
                                            (try clear ho0)
                                            obtain ⟨Ao61, co61, eo61⟩ := Kd.R_slice HO426.out
                                            (first | subst eo61 | (injection eo61 with f1_ f2_ f3_; have f4_ := f1_.symm; have f5_ := f3_.symm; clear f1_ f2_ f3_; subst f4_; subst f5_))
                                            refine hK.out _ _ ⟨(blk_cell BK409.out 0).trans rfl, (blk_cell BK409.out 1).trans rfl⟩ (fun hHeld => ?_)
                                            clear hK K
                                            refine norm_ (a' := ?_) ?_ ?_
                                            rotate_left
                                            · show Act.put _ (some 85) _ = _
                                              simp only [Act.put, List.setIfInBounds_toArray, List.set_cons_zero, List.set_cons_succ, i64_w, i32_w]
                                              rfl
                                            refine one_ (i := 5) (N := some 86) #[true, true, true, true, true, true, false, false, false, false, false] rfl rfl (one_of HT_.out (by kernel_rfl)) (by decide) (fun K hK => ?_)
                                            refine goes_ Try.func37 (by kernel_rfl) rfl #[.agg #[.slice Ao29 t403.length co29, .slice Ao31 t406.length co31], .slice Ao61 t424.length co61] (by rfl) rfl rfl (by (try simp only [List.map_toArray, List.map_cons, List.map_nil]); first | done | rfl | (simp only [List.length_drop, List.length_take]; rfl)) ?_
                                            with_reducible refine (impl_NumAt.calls k3 _ _ t403 _ _ t406 _ _ t424 t427 true _ ?side1 ?side2 ?side3 ?side4 ?side5 ?side6 A52.out).mono ?_
                                            (case side1 => repeat (first | exact (Kd.R_reads' HO_410000.out).2.2 | (with_reducible refine Kd.C_alloc ?_ _) | (with_reducible refine Kd.C_drewN ?_ _) | (with_reducible refine Kd.C_drew ?_)))
                                            (case side2 => exact (Kd.R_reads' HO_410000.out).2.1)
                                            (case side3 => repeat (first | exact (Kd.R_reads' HO_410001.out).2.2 | (with_reducible refine Kd.C_alloc ?_ _) | (with_reducible refine Kd.C_drewN ?_ _) | (with_reducible refine Kd.C_drew ?_)))
                                            (case side4 => exact (Kd.R_reads' HO_410001.out).2.1)
                                            (case side5 => repeat (first | exact (Kd.R_reads' HO426.out).2.2 | (with_reducible refine Kd.C_alloc ?_ _) | (with_reducible refine Kd.C_drewN ?_ _) | (with_reducible refine Kd.C_drew ?_)))
                                            (case side6 => exact (Kd.R_reads' HO426.out).2.1)
                                            rintro e w62 ⟨rfl, hb⟩
                                            refine ⟨_, rfl, ?_⟩
                                            have n0_ := Aside0.mk (Kd.S_below (by (with_reducible repeat (first | apply Kd.S_alloc | apply Kd.S_drewN | apply Kd.S_drew)); exact HO_4.out) hb)
                                            have n1_ := Aside0.mk (Kd.R_below (by (with_reducible repeat (first | apply Kd.R_alloc | apply Kd.R_drewN | apply Kd.R_drew)); exact HO_410000.out) hb)
                                            have n2_ := Aside0.mk (Kd.R_below (by (with_reducible repeat (first | apply Kd.R_alloc | apply Kd.R_drewN | apply Kd.R_drew)); exact HO_410001.out) hb)
                                            have n3_ := Aside0.mk (Kd.R_below (by (with_reducible repeat (first | apply Kd.R_alloc | apply Kd.R_drewN | apply Kd.R_drew)); exact HL423_0.out) hb)
                                            have n4_ := Aside0.mk (Kd.R_below (by (with_reducible repeat (first | apply Kd.R_alloc | apply Kd.R_drewN | apply Kd.R_drew)); exact HL423_1.out) hb)
                                            have n5_ := Aside0.mk (Kd.R_below (by (with_reducible repeat (first | apply Kd.R_alloc | apply Kd.R_drewN | apply Kd.R_drew)); exact HO426.out) hb)
                                            have n6_ := Aside0.mk (blk_below (g := gb409) (o := .cells #[.slice Ao29 t403.length co29, .slice Ao31 t406.length co31] 26 (0, 0)) (by (with_reducible repeat (first | refine blk_drewN ?_ _ | refine blk_drew ?_ | refine blk_alloc ?_ _)); exact BK409.out) hb)
                                            have n7_ := Aside0.mk (Kd.C_below (by repeat (first | (with_reducible exact HR423_0.out) | (with_reducible refine Kd.C_alloc ?_ _) | (with_reducible refine Kd.C_drewN ?_ _) | (with_reducible refine Kd.C_drew ?_) | exact HR423_0.out)) hb)
                                            have n8_ := Aside0.mk (Kd.C_below (by repeat (first | (with_reducible exact HR423_1.out) | (with_reducible refine Kd.C_alloc ?_ _) | (with_reducible refine Kd.C_drewN ?_ _) | (with_reducible refine Kd.C_drew ?_) | exact HR423_1.out)) hb)
                                            have n9_ := Aside0.mk (below_step (by repeat (first | (with_reducible first | exact HB.out | apply below_alloc | apply pw_below_drewN | apply below_drew1 | refine below_set ?_ GE409.out) | exact HB.out)) hb)
                                            clear HO_4 HO_410000 HO_410001 HL423_0 HL423_1 HO426 BK409 HR423_0 HR423_1 HB
                                            have HO_4 := n0_
                                            have HO_410000 := n1_
                                            have HO_410001 := n2_
                                            have HL423_0 := n3_
                                            have HL423_1 := n4_
                                            have HO426 := n5_
                                            have BK409 := n6_
                                            have HR423_0 := n7_
                                            have HR423_1 := n8_
                                            have HB := n9_
                                            clear n0_ n1_ n2_ n3_ n4_ n5_ n6_ n7_ n8_ n9_
                                            (try clear hb)
                                            (try clear hb2)
                                            (try clear hk)
                                            (try clear hi)
                                            refine hK.out _ _ ⟨(blk_cell BK409.out 0).trans rfl, (blk_cell BK409.out 1).trans rfl⟩ (fun hHeld => ?_)
                                            clear hK K
                                            refine norm_ (a' := ?_) ?_ ?_
                                            rotate_left
                                            · show Act.put _ (some 86) _ = _
                                              simp only [Act.put, List.setIfInBounds_toArray, List.set_cons_zero, List.set_cons_succ, i64_w, i32_w]
                                              rfl
                                            refine pure_ (i := 6) (N := some 80) (v := ?_) (a' := ?_) #[true, true, true, true, true, true, true, false, false, false, false] rfl rfl (any_of HT_.out (by kernel_rfl)) (fun _ _ _ h => h) (Or.inl ⟨by rfl, ?_⟩) ?_ ?_
                                            rotate_left
                                            · intro w'
                                              go_simp
                                              with_reducible rfl
                                            rotate_left
                                            · simp only [Act.put, List.setIfInBounds_toArray, List.set_cons_zero, List.set_cons_succ, i64_w, i32_w]
                                              rfl
                                            refine pure_ (i := 7) (N := some 87) (v := ?_) (a' := ?_) #[true, true, true, true, true, true, true, true, false, false, false] rfl rfl (any_of HT_.out (by kernel_rfl)) (fun _ _ _ h => h) (Or.inl ⟨by rfl, ?_⟩) ?_ ?_
                                            rotate_left
                                            · intro w'
                                              go_simp
                                              with_reducible rfl
                                            rotate_left
                                            · simp only [Act.put, List.setIfInBounds_toArray, List.set_cons_zero, List.set_cons_succ, i64_w, i32_w]
                                              rfl
                                            refine pure_ (i := 8) (N := some 88) (v := ?_) (a' := ?_) #[true, true, true, true, true, true, true, true, true, false, false] rfl rfl (any_of HT_.out (by kernel_rfl)) (fun _ _ _ h => h) (Or.inl ⟨by rfl, ?_⟩) ?_ ?_
                                            rotate_left
                                            · intro w'
                                              go_simp
                                              with_reducible rfl
                                            rotate_left
                                            · simp only [Act.put, List.setIfInBounds_toArray, List.set_cons_zero, List.set_cons_succ, i64_w, i32_w]
                                              rfl
                                            refine pure_ (i := 9) (N := some 8) (v := ?_) (a' := ?_) #[true, true, true, true, true, true, true, true, true, true, false] rfl rfl (any_of HT_.out (by kernel_rfl)) (fun _ _ _ h => h) (Or.inl ⟨by rfl, ?_⟩) ?_ ?_
                                            rotate_left
                                            · intro w'
                                              go_simp
                                              with_reducible rfl
                                            rotate_left
                                            · simp only [Act.put, List.setIfInBounds_toArray, List.set_cons_zero, List.set_cons_succ, i64_w, i32_w]
                                              rfl
                                            refine pure_ (i := 10) (N := some 9) (v := ?_) (a' := ?_) #[true, true, true, true, true, true, true, true, true, true, true] rfl rfl (any_of HT_.out (by kernel_rfl)) (fun _ _ _ h => h) (Or.inl ⟨by rfl, ?_⟩) ?_ ?_
                                            rotate_left
                                            · intro w'
                                              go_simp
                                              with_reducible rfl
                                            rotate_left
                                            · simp only [Act.put, List.setIfInBounds_toArray, List.set_cons_zero, List.set_cons_succ, i64_w, i32_w]
                                              rfl
                                            refine done_ (done_of HT_.out (by kernel_rfl)) ?_
                                            have p429 : 0 ≤ (x6_1 : Int) := of_decide_eq_true (by first | (with_reducible assumption) | assumption)
                                            have q429 : x6_1 < (t410.length : Int) := of_decide_eq_true (by first | (with_reducible assumption) | assumption)
                                            obtain ⟨ad429, A429_0, c429_0, A429_1, c429_1, e429, hx429_0, hx429_1, hl429_0, hi429_0, hl429_1, hi429_1⟩ := at_T26 (Kd.S_reads' HO_4.out).2.2 x6_1 p429 q429
                                            obtain rfl : ad423 = ad429 := (by injection e429)
                                            obtain ⟨ce429, hce429, hMe429, hcc429⟩ := Kd.S_get HO_4.out z26 x6_1 p429 (by first | exact q429 | exact of_decide_eq_true (by first | (with_reducible assumption) | assumption) | (have e_ := (Kd.S_reads' HO_4.out).1; omega))
                                            obtain ⟨ve429_0, ve429_1, rfl, ge429_0, ge429_1⟩ := k26_openM hMe429
                                            have hv429_0 := hcc429 0 _ rfl
                                            rw [Nat.add_zero] at hv429_0
                                            replace hv429_0 := Option.some.inj (hv429_0.symm.trans hx429_0)
                                            rw [hv429_0] at ge429_0
                                            have HL429_0 := Aside0.mk (show Kd.R (Kd.int .i64) 3 _ _ _ _ ((rd_T26 t410 x6_1).f0) from ge429_0)
                                            clear hv429_0 ge429_0
                                            have hv429_1 := hcc429 1 _ rfl
                                            rw [add_field _ _ 1 (by omega)] at hv429_1
                                            replace hv429_1 := Option.some.inj (hv429_1.symm.trans hx429_1)
                                            rw [hv429_1] at ge429_1
                                            have HL429_1 := Aside0.mk (show Kd.R (Kd.int .i64) 3 _ _ _ _ ((rd_T26 t410 x6_1).f1) from ge429_1)
                                            clear hv429_1 ge429_1
                                            clear hcc429 hce429
                                            have HR429_0 := Aside0.mk hi429_0
                                            have HC429_0 := Aside0.mk hl429_0
                                            clear hi429_0 hl429_0
                                            have HR429_1 := Aside0.mk hi429_1
                                            have HC429_1 := Aside0.mk hl429_1
                                            clear hi429_1 hl429_1
                                            replace p429 := eq_true p429
                                            replace q429 := eq_true q429
                                            have p430 : 0 ≤ (x7_3 : Int) := of_decide_eq_true (by first | (with_reducible assumption) | assumption)
                                            have q430 : x7_3 < (((rd_T26 t410 x6_1).f1).length : Int) := of_decide_eq_true (by first | (with_reducible assumption) | assumption)
                                            obtain ⟨ad430, e430, hx430_0⟩ := Kd.at_int (by repeat (first | (with_reducible exact HR429_1.out) | (with_reducible refine Kd.C_alloc ?_ _) | (with_reducible refine Kd.C_drewN ?_ _) | (with_reducible refine Kd.C_drew ?_) | exact HR429_1.out)) x7_3 p430 q430
                                            cases e430
                                            replace p430 := eq_true p430
                                            replace q430 := eq_true q430
                                            have hcz63_0 : w62.cell? ⟨gb409, 0, none⟩ = some (.slice Ao29 t403.length co29) := (blk_cell BK409.out 0).trans rfl
                                            have hcz63_1 : w62.cell? ⟨gb409, 1, none⟩ = some (.slice Ao31 t406.length co31) := (blk_cell BK409.out 1).trans rfl
                                            have hfz63_0 := blk_frozen BK409.out 0
                                            have hfz63_1 := blk_frozen BK409.out 1
                                            have p431 : 0 ≤ (x5_3 : Int) := of_decide_eq_true (by first | (with_reducible assumption) | assumption)
                                            have q431 : x5_3 < (t406.length : Int) := of_decide_eq_true (by first | (with_reducible assumption) | assumption)
                                            obtain ⟨ad431, e431, hx431_0⟩ := Kd.at_int (Kd.R_reads' HO_410001.out).2.2 x5_3 p431 q431
                                            cases e431
                                            replace p431 := eq_true p431
                                            replace q431 := eq_true q431
                                            try go_wp2
                                            go_roundg k3
                                            case measure => have := HK1.out; have := HJ40.out; have := HK3.out; omega
                                            case rel => exact ⟨(wrap64 (x5_3 + 1)), (wrap64 (x7_3 + 1)), (by first | rfl | (simp; done) | (simp [*]; done)), (by first | rfl | (simp; done) | (simp [*]; done)), H', ⟨by have := HK1.out; have := HJ40.out; have := HK3.out; omega⟩, ⟨by (with_reducible repeat (first | apply Kd.S_alloc | apply Kd.S_drewN | apply Kd.S_drew)); exact Kd.S_mono HO_4.out (fun _ hk => ⟨hk.1.1, ⟨hk.1.2.1, hk.1.2.2⟩⟩)⟩, ⟨by (with_reducible repeat (first | apply Kd.R_alloc | apply Kd.R_drewN | apply Kd.R_drew)); exact Kd.R_mono HO_410000.out (fun _ hk => hk.1)⟩, ⟨by (with_reducible repeat (first | apply Kd.R_alloc | apply Kd.R_drewN | apply Kd.R_drew)); exact Kd.R_mono HO_410001.out (fun _ hk => hk.1)⟩, ⟨by (with_reducible repeat (first | refine blk_drewN ?_ _ | refine blk_drew ?_ | refine blk_alloc ?_ _)); exact BK409.out⟩, ⟨by repeat (first | (with_reducible first | exact HB.out | apply below_alloc | apply pw_below_drewN | apply below_drew1 | refine below_set ?_ GE409.out) | exact HB.out)⟩⟩
                                          · rw [if_neg c58] at H
                                            have c58b0 : (t427 == (rd t406 x5_3)) = false := beq_eq_false_iff_ne.mpr c58
                                            have c58b1 : (t427 != (rd t406 x5_3)) = true := bne_iff_ne.mpr c58
                                            obtain rfl := Option.some.inj H
                                            exact absurd HT.out (by decide)
                                        · rw [if_neg c57] at H
                                          exact absurd H (by simp)
                                      · rw [if_neg c56] at H
                                        exact absurd H (by simp)
                                    · rw [if_neg c55] at H
                                      have c55b0 : (t427 == (rd ((rd_T26 t410 x6_1).f1) x7_3)) = false := beq_eq_false_iff_ne.mpr c55
                                      have c55b1 : (t427 != (rd ((rd_T26 t410 x6_1).f1) x7_3)) = true := bne_iff_ne.mpr c55
                                      obtain rfl := Option.some.inj H
                                      exact absurd HT.out (by decide)
                                  · rw [if_neg c54] at H
                                    exact absurd H (by simp)
                                · replace c53 := Bool.eq_false_iff.mpr c53
                                  subst c53
                                  have H1 : (some false) = some r := by rw [if_neg (show ¬ (false = true) by decide)] at H; exact H
                                  clear H
                                  have H := H1
                                  clear H1
                                  obtain rfl := Option.some.inj H
                                  exact absurd HT.out (by decide)
                              · rw [if_neg c50] at H
                                have c50b0 : decide (x7_3 < (((rd_T26 t410 x6_1).f1).length : Int)) = false := decide_eq_false c50
                                clear c50
                                have H' := Aside0.mk H
                                clear H
                                have p423 : 0 ≤ (x6_1 : Int) := of_decide_eq_true (by first | (with_reducible assumption) | assumption)
                                have q423 : x6_1 < (t410.length : Int) := of_decide_eq_true (by first | (with_reducible assumption) | assumption)
                                obtain ⟨ad423, A423_0, c423_0, A423_1, c423_1, e423, hx423_0, hx423_1, hl423_0, hi423_0, hl423_1, hi423_1⟩ := at_T26 (Kd.S_reads' HO_4.out).2.2 x6_1 p423 q423
                                cases e423
                                obtain ⟨ce423, hce423, hMe423, hcc423⟩ := Kd.S_get HO_4.out z26 x6_1 p423 (by first | exact q423 | exact of_decide_eq_true (by first | (with_reducible assumption) | assumption) | (have e_ := (Kd.S_reads' HO_4.out).1; omega))
                                obtain ⟨ve423_0, ve423_1, rfl, ge423_0, ge423_1⟩ := k26_openM hMe423
                                have hv423_0 := hcc423 0 _ rfl
                                rw [Nat.add_zero] at hv423_0
                                replace hv423_0 := Option.some.inj (hv423_0.symm.trans hx423_0)
                                rw [hv423_0] at ge423_0
                                have HL423_0 := Aside0.mk (show Kd.R (Kd.int .i64) 3 _ _ _ _ ((rd_T26 t410 x6_1).f0) from ge423_0)
                                clear hv423_0 ge423_0
                                have hv423_1 := hcc423 1 _ rfl
                                rw [add_field _ _ 1 (by omega)] at hv423_1
                                replace hv423_1 := Option.some.inj (hv423_1.symm.trans hx423_1)
                                rw [hv423_1] at ge423_1
                                have HL423_1 := Aside0.mk (show Kd.R (Kd.int .i64) 3 _ _ _ _ ((rd_T26 t410 x6_1).f1) from ge423_1)
                                clear hv423_1 ge423_1
                                clear hcc423 hce423
                                have HR423_0 := Aside0.mk hi423_0
                                have HC423_0 := Aside0.mk hl423_0
                                clear hi423_0 hl423_0
                                have HR423_1 := Aside0.mk hi423_1
                                have HC423_1 := Aside0.mk hl423_1
                                clear hi423_1 hl423_1
                                replace p423 := eq_true p423
                                replace q423 := eq_true q423
                                go_wp2
                                go_roundg k3
                                case measure => have := HK1.out; have := HJ40.out; have := HK3.out; omega
                                case rel => exact ⟨(x5_3), (wrap64 (x6_1 + 1)), (by first | rfl | (simp; done) | (simp [*]; done)), (by first | rfl | (simp; done) | (simp [*]; done)), H', ⟨by have := HK1.out; have := HJ40.out; have := HK3.out; omega⟩, ⟨by (with_reducible repeat (first | apply Kd.S_alloc | apply Kd.S_drewN | apply Kd.S_drew)); exact HO_4.out⟩, ⟨by (with_reducible repeat (first | apply Kd.R_alloc | apply Kd.R_drewN | apply Kd.R_drew)); exact HO_410000.out⟩, ⟨by (with_reducible repeat (first | apply Kd.R_alloc | apply Kd.R_drewN | apply Kd.R_drew)); exact HO_410001.out⟩, ⟨by (with_reducible repeat (first | refine blk_drewN ?_ _ | refine blk_drew ?_ | refine blk_alloc ?_ _)); exact BK409.out⟩, ⟨by repeat (first | (with_reducible first | exact HB.out | apply below_alloc | apply pw_below_drewN | apply below_drew1 | refine below_set ?_ GE409.out) | exact HB.out)⟩⟩
                            · rw [if_neg c49] at H
                              exact absurd H (by simp)
                          · rw [if_neg c48] at H
                            exact absurd H (by simp)
              · rw [if_neg c40] at H
                have c40b0 : decide (x6_1 < (t410.length : Int)) = false := decide_eq_false c40
                clear c40
                by_cases c64 : x5_1 = (t406.length : Int)
                · rw [if_pos c64] at H
                  have c64b0 : (x5_1 == (t406.length : Int)) = true := beq_iff_eq.mpr c64
                  have c64b1 : (x5_1 != (t406.length : Int)) = false := bne_eq_false_iff_eq.mpr c64
                  clear c64
                  by_cases c65 : 0 < (t403.length : Int)
                  · rw [if_pos c65] at H
                    have c65b0 : decide (0 < (t403.length : Int)) = true := decide_eq_true c65
                    have c65b1 : decide (0 < t403.length) = true := decide_eq_true (by omega)
                    clear c65
                    obtain rfl := Option.some.inj H
                    have hcz66_0 : wr.cell? ⟨gb409, 0, none⟩ = some (.slice Ao29 t403.length co29) := (blk_cell BK409.out 0).trans rfl
                    have hcz66_1 : wr.cell? ⟨gb409, 1, none⟩ = some (.slice Ao31 t406.length co31) := (blk_cell BK409.out 1).trans rfl
                    have hfz66_0 := blk_frozen BK409.out 0
                    have hfz66_1 := blk_frozen BK409.out 1
                    have p419 : 0 ≤ (0 : Int) := (by omega)
                    have q419 : 0 < (t403.length : Int) := of_decide_eq_true (by first | (with_reducible assumption) | assumption)
                    obtain ⟨ad419, e419, hx419_0⟩ := Kd.at_int (Kd.R_reads' HO_410000.out).2.2 0 p419 q419
                    cases e419
                    have qi419 : (0 < t403.length) = True := eq_true (by omega)
                    (try rw [show ((0 : Int)).toNat = 0 from rfl] at hx419_0)
                    (try rw [Addr.add_zero'] at hx419_0)
                    replace p419 := eq_true p419
                    replace q419 := eq_true q419
                    go_wp2
                    go_ret
                    exact ⟨by first | rfl | (simp [errW_none, errW_some] <;> rfl) | (simp [*, errW_none, errW_some] <;> rfl), by repeat (first | (with_reducible first | exact HB.out | apply below_alloc | apply pw_below_drewN | apply below_drew1 | refine below_set ?_ GE409.out) | exact HB.out)⟩
                  · rw [if_neg c65] at H
                    exact absurd H (by simp)
                · rw [if_neg c64] at H
                  have c64b0 : (x5_1 == (t406.length : Int)) = false := beq_eq_false_iff_ne.mpr c64
                  have c64b1 : (x5_1 != (t406.length : Int)) = true := bne_iff_ne.mpr c64
                  obtain rfl := Option.some.inj H
                  exact absurd HT.out (by decide)
      · replace c9 := Bool.eq_false_iff.mpr c9
        subst c9
        have H1 : (if (t410.length : Int) = 0 then ((impl_ArraySame.f k t403 t406 t403 t406).bind fun t417 => (some (!t417))) else (some false)) = some r := by rw [if_neg (show ¬ (false = true) by decide)] at H; exact H
        clear H
        have H := H1
        clear H1
        by_cases c67 : (t410.length : Int) = 0
        · rw [if_pos c67] at H
          have c67b0 : ((t410.length : Int) == 0) = true := beq_iff_eq.mpr c67
          have c67b1 : ((t410.length : Int) != 0) = false := bne_eq_false_iff_eq.mpr c67
          clear c67
          replace H := Option.bind_eq_some_iff.mp H
          obtain ⟨t417, A680, H⟩ := H
          replace H : (some (!t417)) = some r := H
          have A68 := Aside0.mk A680
          clear A680
          obtain rfl := Option.some.inj H
          go_enter Try.func6, Try.ntmps6
          go_wp2_with (first | ((with_reducible refine gate_callee (f := 22) rfl ?_); refine goesL_ (some 11) rfl rfl Try.func22 (by kernel_rfl) rfl #[.slice A0 l0.length c0] rfl (by (try simp only [List.map_toArray, List.map_cons, List.map_nil]); first | done | rfl | (simp only [List.length_drop, List.length_take]; rfl)) ?_; (with_reducible refine (laws_big.calls _ _ l0 false _ ?side1 ?side2 A2.out).mono ?_); (case side1 => repeat (first | exact HR0.out | (with_reducible refine Kd.C_alloc ?_ _) | (with_reducible refine Kd.C_drewN ?_ _) | (with_reducible refine Kd.C_drew ?_))); (case side2 => exact HC0.out); rintro e w' ⟨rfl, ⟨nd, rfl⟩⟩; refine ⟨_, rfl, ?_⟩) | ((with_reducible refine gate_callee (f := 31) rfl ?_); refine goesL_ (some 13) rfl rfl Try.func31 (by kernel_rfl) rfl #[.slice A0 l0.length c0] rfl (by (try simp only [List.map_toArray, List.map_cons, List.map_nil]); first | done | rfl | (simp only [List.length_drop, List.length_take]; rfl)) ?_; (with_reducible refine (spec_DrawRows.calls k _ _ l0 t403 t406 _ ?side1 ?side2 A4.out).mono ?_); (case side1 => repeat (first | exact HR0.out | (with_reducible refine Kd.C_alloc ?_ _) | (with_reducible refine Kd.C_drewN ?_ _) | (with_reducible refine Kd.C_drew ?_))); (case side2 => exact HC0.out); rintro e w69 ⟨v404, v407, rfl, ho0, ho1, hb⟩; refine ⟨_, rfl, ?_⟩; have n0_ := Aside0.mk (Kd.R_lower ho0 (below_size (by repeat (first | (with_reducible first | exact HB.out | apply below_alloc | apply pw_below_drewN | apply below_drew1) | exact HB.out)))); have n1_ := Aside0.mk (Kd.R_lower ho1 (below_size (by repeat (first | (with_reducible first | exact HB.out | apply below_alloc | apply pw_below_drewN | apply below_drew1) | exact HB.out)))); have n2_ := Aside0.mk (below_step (by repeat (first | (with_reducible first | exact HB.out | apply below_alloc | apply pw_below_drewN | apply below_drew1) | exact HB.out)) hb); clear HB; have HO405 := n0_; have HO408 := n1_; have HB := n2_; clear n0_ n1_ n2_; (try clear hb); (try clear hb2); (try clear hk); (try clear hi); (try clear ho0); (try clear ho1)) | ((with_reducible refine gate_dst (N := 3) rfl ?_); (try (refine gate_guard (by rfl) ?_; dsimp only)); refine box_event ?hg (N := 3) ?hd (cs := #[.slice none 0 0, .slice none 0 0]) (t := 26) ?hr ?_; (case hd => rfl); (case hg => rfl); (case hr => first | (go_simp; done) | (go_simp; rfl)); intro gb409 hg w70 hbox hb; have n0_ := Aside0.mk (Kd.R_below (by (with_reducible repeat (first | apply Kd.R_alloc | apply Kd.R_drewN | apply Kd.R_drew)); exact HO405.out) hb); have n1_ := Aside0.mk (Kd.R_below (by (with_reducible repeat (first | apply Kd.R_alloc | apply Kd.R_drewN | apply Kd.R_drew)); exact HO408.out) hb); have n2_ := Aside0.mk (below_step (by repeat (first | (with_reducible first | exact HB.out | apply below_alloc | apply pw_below_drewN | apply below_drew1) | exact HB.out)) hb); have n3_ := Aside0.mk (hbox); have n4_ := Aside0.mk ((by rw [hg]; exact (below_size (by repeat (first | (with_reducible first | exact HB.out | apply below_alloc | apply pw_below_drewN | apply below_drew1) | exact HB.out))) : w.heap.size ≤ gb409)); have n5_ := Aside0.mk ((by rw [hg]; exact (below_size (by repeat (first | (with_reducible first | exact HB.out | apply below_alloc | apply pw_below_drewN | apply below_drew1) | exact HB.out))) : w.heap.size ≤ gb409)); clear HO405; clear HO408; clear HB; have HO405 := n0_; have HO408 := n1_; have HB := n2_; have BK409 := n3_; have GW409 := n4_; have GE409 := n5_; clear n0_ n1_ n2_ n3_ n4_ n5_; clear hb hbox hg; obtain ⟨Ao71, co71, eo71⟩ := Kd.R_slice HO405.out; subst eo71; have hcz72_0 : w70.cell? ⟨gb409, 0, none⟩ = some (.slice none 0 0) := (blk_cell BK409.out 0).trans rfl; have hcz72_1 : w70.cell? ⟨gb409, 1, none⟩ = some (.slice none 0 0) := (blk_cell BK409.out 1).trans rfl; have hfz72_0 := blk_frozen BK409.out 0; have hfz72_1 := blk_frozen BK409.out 1; obtain ⟨Ao73, co73, eo73⟩ := Kd.R_slice HO408.out; subst eo73) | ((with_reducible refine gate_callee (f := 32) rfl ?_); refine goesL_ (some 15) rfl rfl Try.func32 (by kernel_rfl) rfl #[.agg #[.slice Ao71 t403.length co71, .slice Ao73 t406.length co73]] rfl (by (try simp only [List.map_toArray, List.map_cons, List.map_nil]); first | done | rfl | (simp only [List.length_drop, List.length_take]; rfl)) ?_; (with_reducible refine (impl_Rows.calls k _ _ t403 _ _ t406 t410 _ ?side1 ?side2 ?side3 ?side4 A5.out).mono ?_); (case side1 => refine (Kd.R_reads' (e := 3) (base := w.heap.size) (ok := fun k_ => some k_ ≠ (.slice Ao73 t406.length co73 : Value).ownBlock) (n := t403.length) (c := co71) ?_).2.2; exact (by (with_reducible repeat (first | apply Kd.R_alloc | apply Kd.R_drewN | apply Kd.R_drew)); exact (Kd.R_mono (Kd.R_far (p := ⟨gb409, 1, none⟩) (Kd.R_far (p := ⟨gb409, 0, none⟩) (Kd.R_types HO405.out BK409.out (by decide)) (fun _ hk => hk.2) (.slice Ao71 t403.length co71)) (fun _ hk => hk.2) (.slice Ao73 t406.length co73)) (fun _ h_ => h_.1)))); (case side2 => exact (Kd.R_reads' HO405.out).2.1); (case side3 => refine (Kd.R_reads' (e := 3) (base := w.heap.size) (ok := fun k_ => some k_ ≠ (.slice Ao71 t403.length co71 : Value).ownBlock) (n := t406.length) (c := co73) ?_).2.2; exact (by (with_reducible repeat (first | apply Kd.R_alloc | apply Kd.R_drewN | apply Kd.R_drew)); exact (Kd.R_mono (Kd.R_far (p := ⟨gb409, 1, none⟩) (Kd.R_far (p := ⟨gb409, 0, none⟩) (Kd.R_types HO408.out BK409.out (by decide)) (fun _ hk => hk.2) (.slice Ao71 t403.length co71)) (fun _ hk => hk.2) (.slice Ao73 t406.length co73)) (fun _ h_ => h_.1)))); (case side4 => exact (Kd.R_reads' HO408.out).2.1); rintro e w74 ⟨v411, rfl, ho0, hb⟩; refine ⟨_, rfl, ?_⟩; have n0_ := Aside0.mk (Kd.R_below (by (with_reducible repeat (first | apply Kd.R_alloc | apply Kd.R_drewN | apply Kd.R_drew)); exact (Kd.R_mono (Kd.R_far (p := ⟨gb409, 1, none⟩) (Kd.R_far (p := ⟨gb409, 0, none⟩) (Kd.R_types HO405.out BK409.out (by decide)) (fun _ hk => hk.2) (.slice Ao71 t403.length co71)) (fun _ hk => hk.2) (.slice Ao73 t406.length co73)) (fun _ h_ => h_.1))) hb); have n1_ := Aside0.mk (Kd.R_below (by (with_reducible repeat (first | apply Kd.R_alloc | apply Kd.R_drewN | apply Kd.R_drew)); exact (Kd.R_mono (Kd.R_far (p := ⟨gb409, 1, none⟩) (Kd.R_far (p := ⟨gb409, 0, none⟩) (Kd.R_types HO408.out BK409.out (by decide)) (fun _ hk => hk.2) (.slice Ao71 t403.length co71)) (fun _ hk => hk.2) (.slice Ao73 t406.length co73)) (fun _ h_ => h_.1))) hb); have n2_ := Aside0.mk (Kd.S_lower (Kd.S_newB (Kd.S_new' (Kd.S_new' ho0 (Kd.R_lt (by (with_reducible repeat (first | apply Kd.R_alloc | apply Kd.R_drewN | apply Kd.R_drew)); exact (Kd.R_mono (Kd.R_far (p := ⟨gb409, 1, none⟩) (Kd.R_far (p := ⟨gb409, 0, none⟩) (Kd.R_types HO405.out BK409.out (by decide)) (fun _ hk => hk.2) (.slice Ao71 t403.length co71)) (fun _ hk => hk.2) (.slice Ao73 t406.length co73)) (fun _ h_ => h_.1))))) (Kd.R_lt (by (with_reducible repeat (first | apply Kd.R_alloc | apply Kd.R_drewN | apply Kd.R_drew)); exact (Kd.R_mono (Kd.R_far (p := ⟨gb409, 1, none⟩) (Kd.R_far (p := ⟨gb409, 0, none⟩) (Kd.R_types HO408.out BK409.out (by decide)) (fun _ hk => hk.2) (.slice Ao71 t403.length co71)) (fun _ hk => hk.2) (.slice Ao73 t406.length co73)) (fun _ h_ => h_.1))))) (g := gb409) (o := .cells #[.slice Ao71 t403.length co71, .slice Ao73 t406.length co73] 26 (0, 0)) (by (with_reducible repeat (first | refine blk_drewN ?_ _ | refine blk_drew ?_ | refine blk_alloc ?_ _)); refine blk_put (cs := #[.slice Ao71 t403.length co71, .slice none 0 0]) ?_ 1 _ rfl; (with_reducible repeat (first | refine blk_drewN ?_ _ | refine blk_drew ?_ | refine blk_alloc ?_ _)); refine blk_put (cs := #[.slice none 0 0, .slice none 0 0]) ?_ 0 _ rfl; (with_reducible repeat (first | refine blk_drewN ?_ _ | refine blk_drew ?_ | refine blk_alloc ?_ _)); exact BK409.out)) (below_size (by repeat (first | (with_reducible first | exact HB.out | apply below_alloc | apply pw_below_drewN | apply below_drew1 | refine below_set ?_ GE409.out) | exact HB.out)))); have n3_ := Aside0.mk (blk_below (g := gb409) (o := .cells #[.slice Ao71 t403.length co71, .slice Ao73 t406.length co73] 26 (0, 0)) (by (with_reducible repeat (first | refine blk_drewN ?_ _ | refine blk_drew ?_ | refine blk_alloc ?_ _)); refine blk_put (cs := #[.slice Ao71 t403.length co71, .slice none 0 0]) ?_ 1 _ rfl; (with_reducible repeat (first | refine blk_drewN ?_ _ | refine blk_drew ?_ | refine blk_alloc ?_ _)); refine blk_put (cs := #[.slice none 0 0, .slice none 0 0]) ?_ 0 _ rfl; (with_reducible repeat (first | refine blk_drewN ?_ _ | refine blk_drew ?_ | refine blk_alloc ?_ _)); exact BK409.out) hb); have n4_ := Aside0.mk (below_step (by repeat (first | (with_reducible first | exact HB.out | apply below_alloc | apply pw_below_drewN | apply below_drew1 | refine below_set ?_ GE409.out) | exact HB.out)) hb); clear HO405; clear HO408; clear BK409; clear HB; have HO405 := n0_; have HO408 := n1_; have HO412 := n2_; have BK409 := n3_; have HB := n4_; clear n0_ n1_ n2_ n3_ n4_; (try clear hb); (try clear hb2); (try clear hk); (try clear hi); (try clear ho0); obtain ⟨Ao75, co75, eo75⟩ := Kd.S_slice HO412.out; subst eo75; have hcz76_0 : w74.cell? ⟨gb409, 0, none⟩ = some (.slice Ao71 t403.length co71) := (blk_cell BK409.out 0).trans rfl; have hcz76_1 : w74.cell? ⟨gb409, 1, none⟩ = some (.slice Ao73 t406.length co73) := (blk_cell BK409.out 1).trans rfl; have hfz76_0 := blk_frozen BK409.out 0; have hfz76_1 := blk_frozen BK409.out 1) | ((with_reducible refine gate_callee (f := 33) rfl ?_); refine goesL_ (some 19) rfl rfl Try.func33 (by kernel_rfl) rfl #[.agg #[.slice Ao71 t403.length co71, .slice Ao73 t406.length co73]] rfl (by (try simp only [List.map_toArray, List.map_cons, List.map_nil]); first | done | rfl | (simp only [List.length_drop, List.length_take]; rfl)) ?_; (with_reducible refine (spec_Rows.calls k _ _ t403 _ _ t406 t413 _ ?side1 ?side2 ?side3 ?side4 A6.out).mono ?_); (case side1 => repeat (first | exact (Kd.R_reads' HO405.out).2.2 | (with_reducible refine Kd.C_alloc ?_ _) | (with_reducible refine Kd.C_drewN ?_ _) | (with_reducible refine Kd.C_drew ?_))); (case side2 => exact (Kd.R_reads' HO405.out).2.1); (case side3 => repeat (first | exact (Kd.R_reads' HO408.out).2.2 | (with_reducible refine Kd.C_alloc ?_ _) | (with_reducible refine Kd.C_drewN ?_ _) | (with_reducible refine Kd.C_drew ?_))); (case side4 => exact (Kd.R_reads' HO408.out).2.1); rintro e w77 ⟨v414, rfl, ho0, hb⟩; refine ⟨_, rfl, ?_⟩; have n0_ := Aside0.mk (Kd.R_below (by (with_reducible repeat (first | apply Kd.R_alloc | apply Kd.R_drewN | apply Kd.R_drew)); exact HO405.out) hb); have n1_ := Aside0.mk (Kd.R_below (by (with_reducible repeat (first | apply Kd.R_alloc | apply Kd.R_drewN | apply Kd.R_drew)); exact HO408.out) hb); have n2_ := Aside0.mk (Kd.S_elder' (by (with_reducible repeat (first | apply Kd.S_alloc | apply Kd.S_drewN | apply Kd.S_drew)); exact HO412.out) (Kd.S_base ho0) hb); have n3_ := Aside0.mk (Kd.S_lower (Kd.S_newB (Kd.S_new' (Kd.S_new' (Kd.S_new' ho0 (Kd.R_lt (by (with_reducible repeat (first | apply Kd.R_alloc | apply Kd.R_drewN | apply Kd.R_drew)); exact HO405.out))) (Kd.R_lt (by (with_reducible repeat (first | apply Kd.R_alloc | apply Kd.R_drewN | apply Kd.R_drew)); exact HO408.out))) (Kd.S_lt (by (with_reducible repeat (first | apply Kd.S_alloc | apply Kd.S_drewN | apply Kd.S_drew)); exact HO412.out))) (g := gb409) (o := .cells #[.slice Ao71 t403.length co71, .slice Ao73 t406.length co73] 26 (0, 0)) (by (with_reducible repeat (first | refine blk_drewN ?_ _ | refine blk_drew ?_ | refine blk_alloc ?_ _)); exact BK409.out)) (below_size (by repeat (first | (with_reducible first | exact HB.out | apply below_alloc | apply pw_below_drewN | apply below_drew1 | refine below_set ?_ GE409.out) | exact HB.out)))); have n4_ := Aside0.mk (blk_below (g := gb409) (o := .cells #[.slice Ao71 t403.length co71, .slice Ao73 t406.length co73] 26 (0, 0)) (by (with_reducible repeat (first | refine blk_drewN ?_ _ | refine blk_drew ?_ | refine blk_alloc ?_ _)); exact BK409.out) hb); have n5_ := Aside0.mk (below_step (by repeat (first | (with_reducible first | exact HB.out | apply below_alloc | apply pw_below_drewN | apply below_drew1 | refine below_set ?_ GE409.out) | exact HB.out)) hb); clear HO405; clear HO408; clear HO412; clear BK409; clear HB; have HO405 := n0_; have HO408 := n1_; have HO412 := n2_; have HO415 := n3_; have BK409 := n4_; have HB := n5_; clear n0_ n1_ n2_ n3_ n4_ n5_; (try clear hb); (try clear hb2); (try clear hk); (try clear hi); (try clear ho0); obtain ⟨Ao78, co78, eo78⟩ := Kd.S_slice HO415.out; subst eo78; have hcz79_0 : w77.cell? ⟨gb409, 0, none⟩ = some (.slice Ao71 t403.length co71) := (blk_cell BK409.out 0).trans rfl; have hcz79_1 : w77.cell? ⟨gb409, 1, none⟩ = some (.slice Ao73 t406.length co73) := (blk_cell BK409.out 1).trans rfl; have hfz79_0 := blk_frozen BK409.out 0; have hfz79_1 := blk_frozen BK409.out 1) | ((with_reducible refine gate_callee (f := 34) rfl ?_); refine goesL_ (some 23) rfl rfl Try.func34 (by kernel_rfl) rfl #[.agg #[.slice Ao71 t403.length co71, .slice Ao73 t406.length co73]] rfl (by (try simp only [List.map_toArray, List.map_cons, List.map_nil]); first | done | rfl | (simp only [List.length_drop, List.length_take]; rfl)) ?_; (with_reducible refine (spec_ArrayOk.calls k _ _ t403 _ _ t406 false _ ?side1 ?side2 ?side3 ?side4 A8.out).mono ?_); (case side1 => repeat (first | exact (Kd.R_reads' HO405.out).2.2 | (with_reducible refine Kd.C_alloc ?_ _) | (with_reducible refine Kd.C_drewN ?_ _) | (with_reducible refine Kd.C_drew ?_))); (case side2 => exact (Kd.R_reads' HO405.out).2.1); (case side3 => repeat (first | exact (Kd.R_reads' HO408.out).2.2 | (with_reducible refine Kd.C_alloc ?_ _) | (with_reducible refine Kd.C_drewN ?_ _) | (with_reducible refine Kd.C_drew ?_))); (case side4 => exact (Kd.R_reads' HO408.out).2.1); rintro e w80 ⟨rfl, hb⟩; refine ⟨_, rfl, ?_⟩; have n0_ := Aside0.mk (Kd.R_below (by (with_reducible repeat (first | apply Kd.R_alloc | apply Kd.R_drewN | apply Kd.R_drew)); exact HO405.out) hb); have n1_ := Aside0.mk (Kd.R_below (by (with_reducible repeat (first | apply Kd.R_alloc | apply Kd.R_drewN | apply Kd.R_drew)); exact HO408.out) hb); have n2_ := Aside0.mk (Kd.S_below (by (with_reducible repeat (first | apply Kd.S_alloc | apply Kd.S_drewN | apply Kd.S_drew)); exact HO412.out) hb); have n3_ := Aside0.mk (Kd.S_below (by (with_reducible repeat (first | apply Kd.S_alloc | apply Kd.S_drewN | apply Kd.S_drew)); exact HO415.out) hb); have n4_ := Aside0.mk (blk_below (g := gb409) (o := .cells #[.slice Ao71 t403.length co71, .slice Ao73 t406.length co73] 26 (0, 0)) (by (with_reducible repeat (first | refine blk_drewN ?_ _ | refine blk_drew ?_ | refine blk_alloc ?_ _)); exact BK409.out) hb); have n5_ := Aside0.mk (below_step (by repeat (first | (with_reducible first | exact HB.out | apply below_alloc | apply pw_below_drewN | apply below_drew1 | refine below_set ?_ GE409.out) | exact HB.out)) hb); clear HO405; clear HO408; clear HO412; clear HO415; clear BK409; clear HB; have HO405 := n0_; have HO408 := n1_; have HO412 := n2_; have HO415 := n3_; have BK409 := n4_; have HB := n5_; clear n0_ n1_ n2_ n3_ n4_ n5_; (try clear hb); (try clear hb2); (try clear hk); (try clear hi); have hcz81_0 : w80.cell? ⟨gb409, 0, none⟩ = some (.slice Ao71 t403.length co71) := (blk_cell BK409.out 0).trans rfl; have hcz81_1 : w80.cell? ⟨gb409, 1, none⟩ = some (.slice Ao73 t406.length co73) := (blk_cell BK409.out 1).trans rfl; have hfz81_0 := blk_frozen BK409.out 0; have hfz81_1 := blk_frozen BK409.out 1) | (go_at_call 35; (repeat rw [i64_w]); (with_reducible refine (impl_ArraySame.calls k _ _ t403 _ _ t406 _ _ t403 _ _ t406 t417 _ ?side1 ?side2 ?side3 ?side4 ?side5 ?side6 ?side7 ?side8 A68.out).mono ?_); (case side1 => repeat (first | exact (Kd.R_reads' HO405.out).2.2 | (with_reducible refine Kd.C_alloc ?_ _) | (with_reducible refine Kd.C_drewN ?_ _) | (with_reducible refine Kd.C_drew ?_))); (case side2 => exact (Kd.R_reads' HO405.out).2.1); (case side3 => repeat (first | exact (Kd.R_reads' HO408.out).2.2 | (with_reducible refine Kd.C_alloc ?_ _) | (with_reducible refine Kd.C_drewN ?_ _) | (with_reducible refine Kd.C_drew ?_))); (case side4 => exact (Kd.R_reads' HO408.out).2.1); (case side5 => repeat (first | exact (Kd.R_reads' HO405.out).2.2 | (with_reducible refine Kd.C_alloc ?_ _) | (with_reducible refine Kd.C_drewN ?_ _) | (with_reducible refine Kd.C_drew ?_))); (case side6 => exact (Kd.R_reads' HO405.out).2.1); (case side7 => repeat (first | exact (Kd.R_reads' HO408.out).2.2 | (with_reducible refine Kd.C_alloc ?_ _) | (with_reducible refine Kd.C_drewN ?_ _) | (with_reducible refine Kd.C_drew ?_))); (case side8 => exact (Kd.R_reads' HO408.out).2.1); rintro e w82 ⟨rfl, hb⟩; have n0_ := Aside0.mk (Kd.R_below (by (with_reducible repeat (first | apply Kd.R_alloc | apply Kd.R_drewN | apply Kd.R_drew)); exact HO405.out) hb); have n1_ := Aside0.mk (Kd.R_below (by (with_reducible repeat (first | apply Kd.R_alloc | apply Kd.R_drewN | apply Kd.R_drew)); exact HO408.out) hb); have n2_ := Aside0.mk (Kd.S_below (by (with_reducible repeat (first | apply Kd.S_alloc | apply Kd.S_drewN | apply Kd.S_drew)); exact HO412.out) hb); have n3_ := Aside0.mk (Kd.S_below (by (with_reducible repeat (first | apply Kd.S_alloc | apply Kd.S_drewN | apply Kd.S_drew)); exact HO415.out) hb); have n4_ := Aside0.mk (blk_below (g := gb409) (o := .cells #[.slice Ao71 t403.length co71, .slice Ao73 t406.length co73] 26 (0, 0)) (by (with_reducible repeat (first | refine blk_drewN ?_ _ | refine blk_drew ?_ | refine blk_alloc ?_ _)); exact BK409.out) hb); have n5_ := Aside0.mk (below_step (by repeat (first | (with_reducible first | exact HB.out | apply below_alloc | apply pw_below_drewN | apply below_drew1 | refine below_set ?_ GE409.out) | exact HB.out)) hb); clear HO405; clear HO408; clear HO412; clear HO415; clear BK409; clear HB; have HO405 := n0_; have HO408 := n1_; have HO412 := n2_; have HO415 := n3_; have BK409 := n4_; have HB := n5_; clear n0_ n1_ n2_ n3_ n4_ n5_; (try clear hb); (try clear hb2); (try clear hk); (try clear hi)))
          go_ret
          exact ⟨by first | rfl | (simp [errW_none, errW_some] <;> rfl) | (simp [*, errW_none, errW_some] <;> rfl), by repeat (first | (with_reducible first | exact HB.out | apply below_alloc | apply pw_below_drewN | apply below_drew1 | refine below_set ?_ GE409.out) | exact HB.out)⟩
        · rw [if_neg c67] at H
          have c67b0 : ((t410.length : Int) == 0) = false := beq_eq_false_iff_ne.mpr c67
          have c67b1 : ((t410.length : Int) != 0) = true := bne_iff_ne.mpr c67
          have c67b2 : ¬ (t410 = []) := fun h_ => c67 (by rw [h_]; rfl)
          obtain rfl := Option.some.inj H
          exact absurd HT.out (by decide)
    · rw [if_neg c7] at H
      have c7b0 : ((t410.length : Int) == (t413.length : Int)) = false := beq_eq_false_iff_ne.mpr c7
      have c7b1 : ((t410.length : Int) != (t413.length : Int)) = true := bne_iff_ne.mpr c7
      have c7b2 : (t410.length == t413.length) = false := by first | simpa using c7 | (simp at c7 ⊢; omega)
      obtain rfl := Option.some.inj H
      exact absurd HT.out (by decide)

/-- THE ONE PURE STATEMENT of laws_FnRows: yours. -/
def laws_FnRows.Pure : Prop := ∀ (l0 : List Int), l0.length ≤ maxLen → l0.length * 1 ≤ 140737488351232 → (∀ x ∈ l0, (Lit.int .u8 x).wf = true) → ∃ k, laws_FnRows.f k l0 = some true
theorem laws_FnRows.walk (P : laws_FnRows.Pure) (a0 : Option Addr) (len0 cap0 : Nat) (z0 : List Int) (w : World) (w0 : (a0 = none ∧ len0 = 0 ∧ cap0 = 0 ∧ z0 = []) ∨ ∃ x, a0 = some x ∧ len0 ≤ cap0 ∧ cap0 ≤ maxLen ∧ z0.length = cap0 ∧ (∀ i, i < z0.length → w.cell? (x.add i) = some (.int .u8 (z0.getD i 0))) ∧ ∀ n ∈ z0, (Lit.int .u8 n).wf = true) (y0 : len0 * 1 ≤ 140737488351232) :
    Calls Try.prog 6 #[.slice a0 len0 cap0] w fun e w' => e = .returned (.bool true) ∧ Below w.heap.size w w' := by
  obtain ⟨l0, rfl, hr0, hm0, hw0, hc0⟩ := ReadsInt.ofRowC w0
  obtain ⟨k, h⟩ := P l0 hm0 y0 hw0
  refine (laws_FnRows.calls k _ _ l0 true w (Kd.C_of_reads (d := (0 : Int)) (h1 := fun _ => rfl) hr0) hc0 h rfl).mono ?_
  rintro e w' ⟨rfl, hd⟩
  exact ⟨rfl, hd⟩

end Go.Proofs.Ytcnbajdnlkcjjaa.PFnRows
