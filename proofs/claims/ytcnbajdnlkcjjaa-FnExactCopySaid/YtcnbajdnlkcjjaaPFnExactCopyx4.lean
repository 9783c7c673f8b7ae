/- The walk of what a law reaches, for the law's row: written by a program of this session; it has no condition of its own. -/
import Derived.Test.YtcnbajdnlkcjjaaPFnExactCopyx0
import Derived.Test.YtcnbajdnlkcjjaaQ
import Derived.Test.YtcnbajdnlkcjjaaPFnExactCopyx2
import Derived.Test.YtcnbajdnlkcjjaaPFnExactCopyx3
namespace Go.Proofs.Ytcnbajdnlkcjjaa.PFnExactCopy
open Go.RowKit Go.Proofs.YtcnbajdnlkcjjaaW.PrintWords Go.Proofs.YtcnbajdnlkcjjaaW.PrintLast Go.Proofs.YtcnbajdnlkcjjaaW.PrintMore Go.Proofs.YtcnbajdnlkcjjaaQ
attribute [local go_sem] max2_int min2_int max_two min_two max_three min_three max_four min_four   -- for this text's walks alone
set_option linter.unusedVariables false
set_option linter.unusedSimpArgs false

/-! ### spec_Copy: function 43 -/
mutual
def spec_Copy.j2 : Nat → List Int → List Int → List Int → List Int → Option (List Int × List Int × Int)
 | 0, _, _, _, _ => none
 | k + 1, x169000, x169001, x170000, x170001 => spec_Copy.l0 k 0 0 x169000 x169001 x170000 x170001
def spec_Copy.l0 : Nat → Int → Int → List Int → List Int → List Int → List Int → Option (List Int × List Int × Int)
 | 0, _, _, _, _, _, _ => none
 | k + 1, x7, x8, x169000, x169001, x170000, x170001 => if x8 < (x169001.length : Int) then (if 0 ≤ x8 then (if (rd x169001 x8) < 0 then (some (([] : List Int), ([] : List Int), 2)) else (spec_Copy.l0 k x7 (wrap64 (x8 + 1)) x169000 x169001 x170000 x170001)) else (none)) else (spec_Copy.l1 k x7 0 x169000 x169001 x170000 x170001)
def spec_Copy.l1 : Nat → Int → Int → List Int → List Int → List Int → List Int → Option (List Int × List Int × Int)
 | 0, _, _, _, _, _, _ => none
 | k + 1, x7, x9, x169000, x169001, x170000, x170001 => if 0 < (x170000.length : Int) then (if x9 < (rd x170000 0) then (if (x169001.length : Int) = 0 then (none) else (if 0 ≤ (Int.tmod x9 (x169001.length : Int)) then (if (Int.tmod x9 (x169001.length : Int)) < (x169001.length : Int) then (spec_Copy.l1 k (wrap64 (x7 + (rd x169001 (Int.tmod x9 (x169001.length : Int))))) (wrap64 (x9 + 1)) x169000 x169001 x170000 x170001) else (none)) else (none))) else ((spec_l1Min.f x7 301).bind fun t178 => ((some (([t178] : List Int) : List Int)).bind fun y179 => (if 1 ≤ (x170000.length : Int) then (if y179.length + (x170000.drop 1).length < 17592186044416 then ((some (y179 ++ (x170000.drop 1) : List Int)).bind fun y183 => ((spec_ShapeOk.f k y183).bind fun t186 => (if t186 = true then ((spec_l3Rows.f k x170000 x170001).bind fun t187 => (spec_Copy.l2 k t187 0 x169000 x169001 y183 ([] : List Int))) else (some (([] : List Int), ([] : List Int), 6))))) else (none)) else (none))))) else (none)
def spec_Copy.l2 : Nat → List (S26) → Int → List Int → List Int → List Int → List Int → Option (List Int × List Int × Int)
 | 0, _, _, _, _, _, _ => none
 | k + 1, x11, x13, x169000, x169001, x191000, x191001 => if x13 < (x11.length : Int) then (spec_Copy.l3 k x11 x13 0 x169000 x169001 x191000 x191001) else (some (x191000, x191001, 0))
def spec_Copy.l3 : Nat → List (S26) → Int → Int → List Int → List Int → List Int → List Int → Option (List Int × List Int × Int)
 | 0, _, _, _, _, _, _, _ => none
 | k + 1, x11, x13, x14, x169000, x169001, x191000, x191001 => if (x169001.length : Int) = 0 then (none) else (if 0 ≤ (Int.tmod x13 (x169001.length : Int)) then (if (Int.tmod x13 (x169001.length : Int)) < (x169001.length : Int) then (if x14 < (rd x169001 (Int.tmod x13 (x169001.length : Int))) then (if 0 ≤ x13 then (if x13 < (x11.length : Int) then (if x191001.length + ((rd_T26 x11 x13).f1).length < 17592186044416 then (spec_Copy.l3 k x11 x13 (wrap64 (x14 + 1)) x169000 x169001 x191000 (x191001 ++ ((rd_T26 x11 x13).f1))) else (none)) else (none)) else (none)) else (spec_Copy.l2 k x11 (wrap64 (x13 + 1)) x169000 x169001 x191000 x191001)) else (none)) else (none))
def spec_Copy.j0 : Nat → Bool → List Int → List Int → List Int → List Int → Option (List Int × List Int × Int)
 | 0, _, _, _, _, _ => none
 | k + 1, x16, x169000, x169001, x170000, x170001 => if x16 = true then (some (([] : List Int), ([] : List Int), 1)) else (if (x169000.length : Int) > 1 then (spec_Copy.j1 k true x169000 x169001 x170000 x170001) else (spec_Copy.j1 k ((x170000.length : Int) == 0) x169000 x169001 x170000 x170001))
def spec_Copy.j1 : Nat → Bool → List Int → List Int → List Int → List Int → Option (List Int × List Int × Int)
 | 0, _, _, _, _, _ => none
 | k + 1, x26, x169000, x169001, x170000, x170001 => if x26 = true then (some (([] : List Int), ([] : List Int), 4)) else (if (x169001.length : Int) = 1 then (spec_Copy.j2 k x169000 x169001 x170000 x170001) else (if 0 < (x170000.length : Int) then (if (x169001.length : Int) = (rd x170000 0) then (spec_Copy.j2 k x169000 x169001 x170000 x170001) else (some (([] : List Int), ([] : List Int), 3))) else (none)))
end
def spec_Copy.f (k : Nat) (l0_0 : List Int) (l0_1 : List Int) (l1_0 : List Int) (l1_1 : List Int) : Option (List Int × List Int × Int) := (spec_ArrayOk.f k l0_0 l0_1).bind fun t172 => (if t172 = true then ((spec_ArrayOk.f k l1_0 l1_1).bind fun t173 => (spec_Copy.j0 k (!t173) l0_0 l0_1 l1_0 l1_1)) else (spec_Copy.j0 k true l0_0 l0_1 l1_0 l1_1))
theorem spec_Copy.mono_l : ∀ k, (∀ y0 y1 y2 y3, LeO (spec_Copy.j2 k y0 y1 y2 y3) (spec_Copy.j2 (k + 1) y0 y1 y2 y3)) ∧ (∀ y0 y1 y2 y3 y4 y5, LeO (spec_Copy.l0 k y0 y1 y2 y3 y4 y5) (spec_Copy.l0 (k + 1) y0 y1 y2 y3 y4 y5)) ∧ (∀ y0 y1 y2 y3 y4 y5, LeO (spec_Copy.l1 k y0 y1 y2 y3 y4 y5) (spec_Copy.l1 (k + 1) y0 y1 y2 y3 y4 y5)) ∧ (∀ y0 y1 y2 y3 y4 y5, LeO (spec_Copy.l2 k y0 y1 y2 y3 y4 y5) (spec_Copy.l2 (k + 1) y0 y1 y2 y3 y4 y5)) ∧ (∀ y0 y1 y2 y3 y4 y5 y6, LeO (spec_Copy.l3 k y0 y1 y2 y3 y4 y5 y6) (spec_Copy.l3 (k + 1) y0 y1 y2 y3 y4 y5 y6)) ∧ (∀ y0 y1 y2 y3 y4, LeO (spec_Copy.j0 k y0 y1 y2 y3 y4) (spec_Copy.j0 (k + 1) y0 y1 y2 y3 y4)) ∧ (∀ y0 y1 y2 y3 y4, LeO (spec_Copy.j1 k y0 y1 y2 y3 y4) (spec_Copy.j1 (k + 1) y0 y1 y2 y3 y4))
 | 0 => ⟨fun _ _ _ _ r h => by simp [spec_Copy.j2] at h, fun _ _ _ _ _ _ r h => by simp [spec_Copy.l0] at h, fun _ _ _ _ _ _ r h => by simp [spec_Copy.l1] at h, fun _ _ _ _ _ _ r h => by simp [spec_Copy.l2] at h, fun _ _ _ _ _ _ _ r h => by simp [spec_Copy.l3] at h, fun _ _ _ _ _ r h => by simp [spec_Copy.j0] at h, fun _ _ _ _ _ r h => by simp [spec_Copy.j1] at h⟩
 | k + 1 => by
  obtain ⟨ih0, ih1, ih2, ih3, ih4, ih5, ih6⟩ := spec_Copy.mono_l k
  refine ⟨?_, ?_, ?_, ?_, ?_, ?_, ?_⟩
  ·
   intro y0 y1 y2 y3
   unfold spec_Copy.j2
   repeat' first
   | (with_reducible exact ih0 _ _ _ _)
   | (with_reducible exact ih1 _ _ _ _ _ _)
   | (with_reducible exact ih2 _ _ _ _ _ _)
   | (with_reducible exact ih3 _ _ _ _ _ _)
   | (with_reducible exact ih4 _ _ _ _ _ _ _)
   | (with_reducible exact ih5 _ _ _ _ _)
   | (with_reducible exact ih6 _ _ _ _ _)
   | (with_reducible exact spec_ArrayOk.mono _ _ _)
   | (with_reducible exact spec_ShapeOk.mono _ _)
   | (with_reducible exact spec_l3Rows.mono _ _ _)
   | (with_reducible exact LeO.refl _)
   | (with_reducible exact LeO.none _)
   | (with_reducible refine LeO.ite ?_ ?_)
   | (with_reducible refine LeO.bind ?_ (fun _ => ?_))
   | exact ih0 _ _ _ _
   | exact ih1 _ _ _ _ _ _
   | exact ih2 _ _ _ _ _ _
   | exact ih3 _ _ _ _ _ _
   | exact ih4 _ _ _ _ _ _ _
   | exact ih5 _ _ _ _ _
   | exact ih6 _ _ _ _ _
   | exact spec_ArrayOk.mono _ _ _
   | exact spec_ShapeOk.mono _ _
   | exact spec_l3Rows.mono _ _ _
   | exact LeO.none _
   | refine LeO.ite ?_ ?_
   | refine LeO.bind ?_ (fun _ => ?_)
  ·
   intro y0 y1 y2 y3 y4 y5
   unfold spec_Copy.l0
   repeat' first
   | (with_reducible exact ih0 _ _ _ _)
   | (with_reducible exact ih1 _ _ _ _ _ _)
   | (with_reducible exact ih2 _ _ _ _ _ _)
   | (with_reducible exact ih3 _ _ _ _ _ _)
   | (with_reducible exact ih4 _ _ _ _ _ _ _)
   | (with_reducible exact ih5 _ _ _ _ _)
   | (with_reducible exact ih6 _ _ _ _ _)
   | (with_reducible exact spec_ArrayOk.mono _ _ _)
   | (with_reducible exact spec_ShapeOk.mono _ _)
   | (with_reducible exact spec_l3Rows.mono _ _ _)
   | (with_reducible exact LeO.refl _)
   | (with_reducible exact LeO.none _)
   | (with_reducible refine LeO.ite ?_ ?_)
   | (with_reducible refine LeO.bind ?_ (fun _ => ?_))
   | exact ih0 _ _ _ _
   | exact ih1 _ _ _ _ _ _
   | exact ih2 _ _ _ _ _ _
   | exact ih3 _ _ _ _ _ _
   | exact ih4 _ _ _ _ _ _ _
   | exact ih5 _ _ _ _ _
   | exact ih6 _ _ _ _ _
   | exact spec_ArrayOk.mono _ _ _
   | exact spec_ShapeOk.mono _ _
   | exact spec_l3Rows.mono _ _ _
   | exact LeO.none _
   | refine LeO.ite ?_ ?_
   | refine LeO.bind ?_ (fun _ => ?_)
  ·
   intro y0 y1 y2 y3 y4 y5
   unfold spec_Copy.l1
   repeat' first
   | (with_reducible exact ih0 _ _ _ _)
   | (with_reducible exact ih1 _ _ _ _ _ _)
   | (with_reducible exact ih2 _ _ _ _ _ _)
   | (with_reducible exact ih3 _ _ _ _ _ _)
   | (with_reducible exact ih4 _ _ _ _ _ _ _)
   | (with_reducible exact ih5 _ _ _ _ _)
   | (with_reducible exact ih6 _ _ _ _ _)
   | (with_reducible exact spec_ArrayOk.mono _ _ _)
   | (with_reducible exact spec_ShapeOk.mono _ _)
   | (with_reducible exact spec_l3Rows.mono _ _ _)
   | (with_reducible exact LeO.refl _)
   | (with_reducible exact LeO.none _)
   | (with_reducible refine LeO.ite ?_ ?_)
   | (with_reducible refine LeO.bind ?_ (fun _ => ?_))
   | exact ih0 _ _ _ _
   | exact ih1 _ _ _ _ _ _
   | exact ih2 _ _ _ _ _ _
   | exact ih3 _ _ _ _ _ _
   | exact ih4 _ _ _ _ _ _ _
   | exact ih5 _ _ _ _ _
   | exact ih6 _ _ _ _ _
   | exact spec_ArrayOk.mono _ _ _
   | exact spec_ShapeOk.mono _ _
   | exact spec_l3Rows.mono _ _ _
   | exact LeO.none _
   | refine LeO.ite ?_ ?_
   | refine LeO.bind ?_ (fun _ => ?_)
  ·
   intro y0 y1 y2 y3 y4 y5
   unfold spec_Copy.l2
   repeat' first
   | (with_reducible exact ih0 _ _ _ _)
   | (with_reducible exact ih1 _ _ _ _ _ _)
   | (with_reducible exact ih2 _ _ _ _ _ _)
   | (with_reducible exact ih3 _ _ _ _ _ _)
   | (with_reducible exact ih4 _ _ _ _ _ _ _)
   | (with_reducible exact ih5 _ _ _ _ _)
   | (with_reducible exact ih6 _ _ _ _ _)
   | (with_reducible exact spec_ArrayOk.mono _ _ _)
   | (with_reducible exact spec_ShapeOk.mono _ _)
   | (with_reducible exact spec_l3Rows.mono _ _ _)
   | (with_reducible exact LeO.refl _)
   | (with_reducible exact LeO.none _)
   | (with_reducible refine LeO.ite ?_ ?_)
   | (with_reducible refine LeO.bind ?_ (fun _ => ?_))
   | exact ih0 _ _ _ _
   | exact ih1 _ _ _ _ _ _
   | exact ih2 _ _ _ _ _ _
   | exact ih3 _ _ _ _ _ _
   | exact ih4 _ _ _ _ _ _ _
   | exact ih5 _ _ _ _ _
   | exact ih6 _ _ _ _ _
   | exact spec_ArrayOk.mono _ _ _
   | exact spec_ShapeOk.mono _ _
   | exact spec_l3Rows.mono _ _ _
   | exact LeO.none _
   | refine LeO.ite ?_ ?_
   | refine LeO.bind ?_ (fun _ => ?_)
  ·
   intro y0 y1 y2 y3 y4 y5 y6
   unfold spec_Copy.l3
   repeat' first
   | (with_reducible exact ih0 _ _ _ _)
   | (with_reducible exact ih1 _ _ _ _ _ _)
   | (with_reducible exact ih2 _ _ _ _ _ _)
   | (with_reducible exact ih3 _ _ _ _ _ _)
   | (with_reducible exact ih4 _ _ _ _ _ _ _)
   | (with_reducible exact ih5 _ _ _ _ _)
   | (with_reducible exact ih6 _ _ _ _ _)
   | (with_reducible exact spec_ArrayOk.mono _ _ _)
   | (with_reducible exact spec_ShapeOk.mono _ _)
   | (with_reducible exact spec_l3Rows.mono _ _ _)
   | (with_reducible exact LeO.refl _)
   | (with_reducible exact LeO.none _)
   | (with_reducible refine LeO.ite ?_ ?_)
   | (with_reducible refine LeO.bind ?_ (fun _ => ?_))
   | exact ih0 _ _ _ _
   | exact ih1 _ _ _ _ _ _
   | exact ih2 _ _ _ _ _ _
   | exact ih3 _ _ _ _ _ _
   | exact ih4 _ _ _ _ _ _ _
   | exact ih5 _ _ _ _ _
   | exact ih6 _ _ _ _ _
   | exact spec_ArrayOk.mono _ _ _
   | exact spec_ShapeOk.mono _ _
   | exact spec_l3Rows.mono _ _ _
   | exact LeO.none _
   | refine LeO.ite ?_ ?_
   | refine LeO.bind ?_ (fun _ => ?_)
  ·
   intro y0 y1 y2 y3 y4
   unfold spec_Copy.j0
   repeat' first
   | (with_reducible exact ih0 _ _ _ _)
   | (with_reducible exact ih1 _ _ _ _ _ _)
   | (with_reducible exact ih2 _ _ _ _ _ _)
   | (with_reducible exact ih3 _ _ _ _ _ _)
   | (with_reducible exact ih4 _ _ _ _ _ _ _)
   | (with_reducible exact ih5 _ _ _ _ _)
   | (with_reducible exact ih6 _ _ _ _ _)
   | (with_reducible exact spec_ArrayOk.mono _ _ _)
   | (with_reducible exact spec_ShapeOk.mono _ _)
   | (with_reducible exact spec_l3Rows.mono _ _ _)
   | (with_reducible exact LeO.refl _)
   | (with_reducible exact LeO.none _)
   | (with_reducible refine LeO.ite ?_ ?_)
   | (with_reducible refine LeO.bind ?_ (fun _ => ?_))
   | exact ih0 _ _ _ _
   | exact ih1 _ _ _ _ _ _
   | exact ih2 _ _ _ _ _ _
   | exact ih3 _ _ _ _ _ _
   | exact ih4 _ _ _ _ _ _ _
   | exact ih5 _ _ _ _ _
   | exact ih6 _ _ _ _ _
   | exact spec_ArrayOk.mono _ _ _
   | exact spec_ShapeOk.mono _ _
   | exact spec_l3Rows.mono _ _ _
   | exact LeO.none _
   | refine LeO.ite ?_ ?_
   | refine LeO.bind ?_ (fun _ => ?_)
  ·
   intro y0 y1 y2 y3 y4
   unfold spec_Copy.j1
   repeat' first
   | (with_reducible exact ih0 _ _ _ _)
   | (with_reducible exact ih1 _ _ _ _ _ _)
   | (with_reducible exact ih2 _ _ _ _ _ _)
   | (with_reducible exact ih3 _ _ _ _ _ _)
   | (with_reducible exact ih4 _ _ _ _ _ _ _)
   | (with_reducible exact ih5 _ _ _ _ _)
   | (with_reducible exact ih6 _ _ _ _ _)
   | (with_reducible exact spec_ArrayOk.mono _ _ _)
   | (with_reducible exact spec_ShapeOk.mono _ _)
   | (with_reducible exact spec_l3Rows.mono _ _ _)
   | (with_reducible exact LeO.refl _)
   | (with_reducible exact LeO.none _)
   | (with_reducible refine LeO.ite ?_ ?_)
   | (with_reducible refine LeO.bind ?_ (fun _ => ?_))
   | exact ih0 _ _ _ _
   | exact ih1 _ _ _ _ _ _
   | exact ih2 _ _ _ _ _ _
   | exact ih3 _ _ _ _ _ _
   | exact ih4 _ _ _ _ _ _ _
   | exact ih5 _ _ _ _ _
   | exact ih6 _ _ _ _ _
   | exact spec_ArrayOk.mono _ _ _
   | exact spec_ShapeOk.mono _ _
   | exact spec_l3Rows.mono _ _ _
   | exact LeO.none _
   | refine LeO.ite ?_ ?_
   | refine LeO.bind ?_ (fun _ => ?_)
theorem spec_Copy.mono : ∀ a0 a1 a2 a3 k, LeO (spec_Copy.f k a0 a1 a2 a3) (spec_Copy.f (k + 1) a0 a1 a2 a3) := by
 intro a0 a1 a2 a3 k
 obtain ⟨ih0, ih1, ih2, ih3, ih4, ih5, ih6⟩ := spec_Copy.mono_l k
 unfold spec_Copy.f
 repeat' first
   | (with_reducible exact ih0 _ _ _ _)
   | (with_reducible exact ih1 _ _ _ _ _ _)
   | (with_reducible exact ih2 _ _ _ _ _ _)
   | (with_reducible exact ih3 _ _ _ _ _ _)
   | (with_reducible exact ih4 _ _ _ _ _ _ _)
   | (with_reducible exact ih5 _ _ _ _ _)
   | (with_reducible exact ih6 _ _ _ _ _)
   | (with_reducible exact spec_ArrayOk.mono _ _ _)
   | (with_reducible exact spec_ShapeOk.mono _ _)
   | (with_reducible exact spec_l3Rows.mono _ _ _)
   | (with_reducible exact LeO.refl _)
   | (with_reducible exact LeO.none _)
   | (with_reducible refine LeO.ite ?_ ?_)
   | (with_reducible refine LeO.bind ?_ (fun _ => ?_))
   | exact ih0 _ _ _ _
   | exact ih1 _ _ _ _ _ _
   | exact ih2 _ _ _ _ _ _
   | exact ih3 _ _ _ _ _ _
   | exact ih4 _ _ _ _ _ _ _
   | exact ih5 _ _ _ _ _
   | exact ih6 _ _ _ _ _
   | exact spec_ArrayOk.mono _ _ _
   | exact spec_ShapeOk.mono _ _
   | exact spec_l3Rows.mono _ _ _
   | exact LeO.none _
   | refine LeO.ite ?_ ?_
   | refine LeO.bind ?_ (fun _ => ?_)
def spec_Copy.T6 : Bool × List (List Nat × List Nat) := (true, [([], []), ([0], [0]), ([1], [1]), ([2], [2]), ([3], [3]), ([4], [4]), ([5, 4], [4, 5]), ([6, 4], [4, 6]), ([4], [4]), ([8, 4], [4, 8]), ([9, 4], [4, 9]), ([10, 4], [4, 10]), ([7, 11, 4], [4, 7, 11]), ([4, 12], [4, 12]), ([13, 4], [13])])
def spec_Copy.B6 : List Nat := [0, 1, 3, 7, 15, 31, 63, 127, 31, 287, 799, 1823, 4095, 8191, 16383]
theorem spec_Copy.tab6 : rtab .any (opsOf Try.f43 6) = spec_Copy.T6 := by kernel_rfl
theorem spec_Copy.bits6 : waitsOk spec_Copy.T6.2 spec_Copy.B6 = true := by kernel_rfl
def spec_Copy.T17 : Bool × List (List Nat × List Nat) := (true, [([], []), ([], []), ([1], [1]), ([], []), ([], []), ([4], [4]), ([5], [5]), ([3, 6], [3, 6]), ([2, 7], [2, 7]), ([8], [8]), ([0, 9], [0, 9]), ([10, 0, 1, 2, 3, 4, 5, 6, 7, 8, 9, 10], [0, 10])])
def spec_Copy.B17 : List Nat := [0, 0, 2, 0, 0, 16, 48, 120, 254, 510, 1023, 2047]
theorem spec_Copy.tab17 : rtab .any (opsOf Try.f43 17) = spec_Copy.T17 := by kernel_rfl
theorem spec_Copy.bits17 : waitsOk spec_Copy.T17.2 spec_Copy.B17 = true := by kernel_rfl
def spec_Copy.T18 : Bool × List (List Nat × List Nat) := (true, [([], []), ([0], [0]), ([1], [1]), ([], []), ([3], [3]), ([4], [4]), ([2, 5, 1], [2, 5]), ([6, 6, 0, 1, 2, 3, 4, 5, 6], [6])])
def spec_Copy.B18 : List Nat := [0, 1, 3, 0, 8, 24, 63, 127]
theorem spec_Copy.tab18 : rtab .any (opsOf Try.f43 18) = spec_Copy.T18 := by kernel_rfl
theorem spec_Copy.bits18 : waitsOk spec_Copy.T18.2 spec_Copy.B18 = true := by kernel_rfl
def spec_Copy.T27 : Bool × List (List Nat × List Nat) := (true, [([], []), ([], []), ([1], [1]), ([], []), ([], []), ([4], [4]), ([5], [5]), ([3, 6], [3, 6]), ([2, 7], [2, 7]), ([8], [8]), ([0, 9], [0, 9])])
def spec_Copy.B27 : List Nat := [0, 0, 2, 0, 0, 16, 48, 120, 254, 510, 1023]
theorem spec_Copy.tab27 : rtab .any (opsOf Try.f43 27) = spec_Copy.T27 := by kernel_rfl
theorem spec_Copy.bits27 : waitsOk spec_Copy.T27.2 spec_Copy.B27 = true := by kernel_rfl
def spec_Copy.T29 : Bool × List (List Nat × List Nat) := (true, [([], []), ([0], [0]), ([], []), ([], []), ([2, 3], [2, 3]), ([4], [4]), ([5], [5]), ([1, 6], [1, 6]), ([0, 1, 2, 3, 4, 5, 6, 7], []), ([8, 7, 7, 0, 1, 2, 3, 4, 5, 6, 7], [7, 8])])
def spec_Copy.B29 : List Nat := [0, 1, 0, 0, 12, 28, 60, 127, 255, 511]
theorem spec_Copy.tab29 : rtab .any (opsOf Try.f43 29) = spec_Copy.T29 := by kernel_rfl
theorem spec_Copy.bits29 : waitsOk spec_Copy.T29.2 spec_Copy.B29 = true := by kernel_rfl
set_option maxHeartbeats 8000000 in
set_option maxRecDepth 100000 in
theorem spec_Copy.calls (k : Nat) (A0_0 : Option Addr) (c0_0 : Nat) (l0_0 : List Int) (A0_1 : Option Addr) (c0_1 : Nat) (l0_1 : List Int) (A1_0 : Option Addr) (c1_0 : Nat) (l1_0 : List Int) (A1_1 : Option Addr) (c1_1 : Nat) (l1_1 : List Int) (r1 : List Int) (r2 : List Int) (r3 : Int) (w : World) (hr0_0 : Kd.C (Kd.int .i64) w A0_0 l0_0.length l0_0) (hc0_0 : l0_0.length ≤ c0_0) (hr0_1 : Kd.C (Kd.int .i64) w A0_1 l0_1.length l0_1) (hc0_1 : l0_1.length ≤ c0_1) (hr1_0 : Kd.C (Kd.int .i64) w A1_0 l1_0.length l1_0) (hc1_0 : l1_0.length ≤ c1_0) (hr1_1 : Kd.C (Kd.int .i64) w A1_1 l1_1.length l1_1) (hc1_1 : l1_1.length ≤ c1_1) (h : spec_Copy.f k l0_0 l0_1 l1_0 l1_1 = some (r1, r2, r3)) :
  Calls Try.prog 43 #[.agg #[.slice A0_0 l0_0.length c0_0, .slice A0_1 l0_1.length c0_1], .agg #[.slice A1_0 l1_0.length c1_0, .slice A1_1 l1_1.length c1_1]] w fun e w' => ∃ v0_ v1_ : Value, e = .returned (.tuple #[.agg #[v0_, v1_], .int .i64 r3]) ∧ Kd.R (Kd.int .i64) 3 w' w.heap.size (fun k_ => some k_ ≠ (v1_ : Value).ownBlock) v0_ r1 ∧ Kd.R (Kd.int .i64) 3 w' w.heap.size (fun k_ => some k_ ≠ (v0_ : Value).ownBlock) v1_ r2 ∧ Below w.heap.size w w' := by
 have hu26 := Try.underlying26
 have HR0_0 := Aside0.mk hr0_0
 have HC0_0 := Aside0.mk hc0_0
 clear hr0_0 hc0_0
 have HR0_1 := Aside0.mk hr0_1
 have HC0_1 := Aside0.mk hc0_1
 clear hr0_1 hc0_1
 have HR1_0 := Aside0.mk hr1_0
 have HC1_0 := Aside0.mk hc1_0
 clear hr1_0 hc1_0
 have HR1_1 := Aside0.mk hr1_1
 have HC1_1 := Aside0.mk hc1_1
 clear hr1_1 hc1_1
 have HB := Aside0.mk (Below.refl w.heap.size w)
 have H : ((spec_ArrayOk.f k l0_0 l0_1).bind fun t172 => (if t172 = true then ((spec_ArrayOk.f k l1_0 l1_1).bind fun t173 => (spec_Copy.j0 k (!t173) l0_0 l0_1 l1_0 l1_1)) else (spec_Copy.j0 k true l0_0 l0_1 l1_0 l1_1))) = some (r1, r2, r3) := h
 clear h
 have HC3 := Aside0.mk H
 clear H
 go_enter Try.func43, Try.ntmps43
 go_upto_block 0 with (first | ((with_reducible refine gate_dst (N := 2) rfl ?_); (try (refine gate_guard (by rfl) ?_; dsimp only)); refine box_event ?hg (N := 2) ?hd (cs := #[.slice A0_0 l0_0.length c0_0, .slice A0_1 l0_1.length c0_1]) (t := 26) ?hr ?_; (case hd => rfl); (case hg => rfl); (case hr => first | (go_simp; done) | (go_simp; rfl)); intro gb168 hg w4 hbox hb; have BK168 := Aside0.mk (hbox); have GW168 := Aside0.mk ((by rw [hg]; exact (below_size (bU HB.out)) : w.heap.size ≤ gb168)); have GE168 := Aside0.mk ((by rw [hg]; exact (below_size (bU HB.out)) : w.heap.size ≤ gb168)); replace HB := Aside0.mk (below_step (bU HB.out) hb); clear hb hbox hg) | ((with_reducible refine gate_dst (N := 3) rfl ?_); (try (refine gate_guard (by rfl) ?_; dsimp only)); refine box_event ?hg (N := 3) ?hd (cs := #[.slice A1_0 l1_0.length c1_0, .slice A1_1 l1_1.length c1_1]) (t := 26) ?hr ?_; (case hd => rfl); (case hg => rfl); (case hr => first | (go_simp; done) | (go_simp; rfl)); intro gb169 hg w5 hbox hb; have BK169 := Aside0.mk (hbox); have GW169 := Aside0.mk ((by rw [hg]; exact (below_size (bS1 HB.out GE168.out)) : w.heap.size ≤ gb169)); have GE169 := Aside0.mk ((by rw [hg]; exact (below_size (bS1 HB.out GE168.out)) : w.heap.size ≤ gb169)); replace HB := Aside0.mk (below_step (bS1 HB.out GE168.out) hb); have NB168_169 := Aside0.mk ((by rw [hg]; exact Nat.ne_of_lt (blk_lt (g := gb168) (o := .cells #[.slice A0_0 l0_0.length c0_0, .slice A0_1 l0_1.length c0_1] 26 (0, 0)) (kU BK168.out)) : gb168 ≠ gb169)); have NB169_168 := Aside0.mk ((by rw [hg]; exact Nat.ne_of_gt (blk_lt (g := gb168) (o := .cells #[.slice A0_0 l0_0.length c0_0, .slice A0_1 l0_1.length c0_1] 26 (0, 0)) (kU BK168.out)) : gb169 ≠ gb168)); replace BK168 := Aside0.mk (blk_below (g := gb168) (o := .cells #[.slice A0_0 l0_0.length c0_0, .slice A0_1 l0_1.length c0_1] 26 (0, 0)) (kU BK168.out) hb); clear hb hbox hg) | ((with_reducible refine gate_dst (N := 4) rfl ?_); (try (refine gate_guard (by rfl) ?_; dsimp only)); refine box_event ?hg (N := 4) ?hd (cs := #[.slice none 0 0, .slice none 0 0]) (t := 26) ?hr ?_; (case hd => rfl); (case hg => rfl); (case hr => first | (go_simp; done) | (go_simp; rfl)); intro gb170 hg w6 hbox hb; have BK170 := Aside0.mk (hbox); have GW170 := Aside0.mk ((by rw [hg]; exact (below_size (bS2 HB.out GE168.out GE169.out)) : w.heap.size ≤ gb170)); have GE170 := Aside0.mk ((by rw [hg]; exact (below_size (bS2 HB.out GE168.out GE169.out)) : w.heap.size ≤ gb170)); replace HB := Aside0.mk (below_step (bS2 HB.out GE168.out GE169.out) hb); have NB168_170 := Aside0.mk ((by rw [hg]; exact Nat.ne_of_lt (blk_lt (g := gb168) (o := .cells #[.slice A0_0 l0_0.length c0_0, .slice A0_1 l0_1.length c0_1] 26 (0, 0)) (kU BK168.out)) : gb168 ≠ gb170)); have NB170_168 := Aside0.mk ((by rw [hg]; exact Nat.ne_of_gt (blk_lt (g := gb168) (o := .cells #[.slice A0_0 l0_0.length c0_0, .slice A0_1 l0_1.length c0_1] 26 (0, 0)) (kU BK168.out)) : gb170 ≠ gb168)); replace BK168 := Aside0.mk (blk_below (g := gb168) (o := .cells #[.slice A0_0 l0_0.length c0_0, .slice A0_1 l0_1.length c0_1] 26 (0, 0)) (kU BK168.out) hb); have NB169_170 := Aside0.mk ((by rw [hg]; exact Nat.ne_of_lt (blk_lt (g := gb169) (o := .cells #[.slice A1_0 l1_0.length c1_0, .slice A1_1 l1_1.length c1_1] 26 (0, 0)) (kU BK169.out)) : gb169 ≠ gb170)); have NB170_169 := Aside0.mk ((by rw [hg]; exact Nat.ne_of_gt (blk_lt (g := gb169) (o := .cells #[.slice A1_0 l1_0.length c1_0, .slice A1_1 l1_1.length c1_1] 26 (0, 0)) (kU BK169.out)) : gb170 ≠ gb169)); replace BK169 := Aside0.mk (blk_below (g := gb169) (o := .cells #[.slice A1_0 l1_0.length c1_0, .slice A1_1 l1_1.length c1_1] 26 (0, 0)) (kU BK169.out) hb); clear hb hbox hg) | ((with_reducible refine gate_dst (N := 6) rfl ?_); (try (refine gate_guard (by rfl) ?_; dsimp only)); refine box_event ?hg (N := 6) ?hd (cs := #[.slice none 0 0, .slice none 0 0]) (t := 26) ?hr ?_; (case hd => rfl); (case hg => rfl); (case hr => first | (go_simp; done) | (go_simp; rfl)); intro gb171 hg w7 hbox hb; have BK171 := Aside0.mk (hbox); have GW171 := Aside0.mk ((by rw [hg]; exact (below_size (bS3 HB.out GE168.out GE169.out GE170.out)) : w.heap.size ≤ gb171)); have GE171 := Aside0.mk ((by rw [hg]; exact (below_size (bS3 HB.out GE168.out GE169.out GE170.out)) : w.heap.size ≤ gb171)); replace HB := Aside0.mk (below_step (bS3 HB.out GE168.out GE169.out GE170.out) hb); have NB168_171 := Aside0.mk ((by rw [hg]; exact Nat.ne_of_lt (blk_lt (g := gb168) (o := .cells #[.slice A0_0 l0_0.length c0_0, .slice A0_1 l0_1.length c0_1] 26 (0, 0)) (kU BK168.out)) : gb168 ≠ gb171)); have NB171_168 := Aside0.mk ((by rw [hg]; exact Nat.ne_of_gt (blk_lt (g := gb168) (o := .cells #[.slice A0_0 l0_0.length c0_0, .slice A0_1 l0_1.length c0_1] 26 (0, 0)) (kU BK168.out)) : gb171 ≠ gb168)); replace BK168 := Aside0.mk (blk_below (g := gb168) (o := .cells #[.slice A0_0 l0_0.length c0_0, .slice A0_1 l0_1.length c0_1] 26 (0, 0)) (kU BK168.out) hb); have NB169_171 := Aside0.mk ((by rw [hg]; exact Nat.ne_of_lt (blk_lt (g := gb169) (o := .cells #[.slice A1_0 l1_0.length c1_0, .slice A1_1 l1_1.length c1_1] 26 (0, 0)) (kU BK169.out)) : gb169 ≠ gb171)); have NB171_169 := Aside0.mk ((by rw [hg]; exact Nat.ne_of_gt (blk_lt (g := gb169) (o := .cells #[.slice A1_0 l1_0.length c1_0, .slice A1_1 l1_1.length c1_1] 26 (0, 0)) (kU BK169.out)) : gb171 ≠ gb169)); replace BK169 := Aside0.mk (blk_below (g := gb169) (o := .cells #[.slice A1_0 l1_0.length c1_0, .slice A1_1 l1_1.length c1_1] 26 (0, 0)) (kU BK169.out) hb); have NB170_171 := Aside0.mk ((by rw [hg]; exact Nat.ne_of_lt (blk_lt (g := gb170) (o := .cells #[.slice none 0 0, .slice none 0 0] 26 (0, 0)) (kU BK170.out)) : gb170 ≠ gb171)); have NB171_170 := Aside0.mk ((by rw [hg]; exact Nat.ne_of_gt (blk_lt (g := gb170) (o := .cells #[.slice none 0 0, .slice none 0 0] 26 (0, 0)) (kU BK170.out)) : gb171 ≠ gb170)); replace BK170 := Aside0.mk (blk_below (g := gb170) (o := .cells #[.slice none 0 0, .slice none 0 0] 26 (0, 0)) (kU BK170.out) hb); clear hb hbox hg; have hnb8 := NB171_168.out; have hnc8 := NB168_171.out; have hnb9 := NB171_169.out; have hnc9 := NB169_171.out; have hnb10 := NB171_170.out; have hnc10 := NB170_171.out; have hcz11_0 : w7.cell? ⟨gb171, 0, none⟩ = some (.slice none 0 0) := (blk_cell BK171.out 0).trans rfl; have hcz11_1 : w7.cell? ⟨gb171, 1, none⟩ = some (.slice none 0 0) := (blk_cell BK171.out 1).trans rfl; have hfz11_0 := blk_frozen BK171.out 0; have hfz11_1 := blk_frozen BK171.out 1))
 (try simp only [Act.put, List.setIfInBounds_toArray, List.set_cons_zero, List.set_cons_succ])
 go_cut [] (fun wc => ∃ (kq : Nat), Aside0 (spec_Copy.j2 kq l0_0 l0_1 l1_0 l1_1 = some (r1, r2, r3)) ∧ Aside0 (kq ≤ k) ∧ Aside0 (wc.heap[gb168]? = some (.cells #[(.slice A0_0 l0_0.length c0_0), (.slice A0_1 l0_1.length c0_1)] 26 (0, 0))) ∧ Aside0 (wc.heap[gb169]? = some (.cells #[(.slice A1_0 l1_0.length c1_0), (.slice A1_1 l1_1.length c1_1)] 26 (0, 0))) ∧ Aside0 (wc.heap[gb170]? = some (.cells #[(.slice none 0 0), (.slice none 0 0)] 26 (0, 0))) ∧ Aside0 (wc.heap[gb171]? = some (.cells #[(.slice none 0 0), (.slice none 0 0)] 26 (0, 0))) ∧ Aside0 (Below w.heap.size w wc))
 case first =>
  have H := HC3.out
  clear HC3
  have HC12 := Aside0.mk H
  clear H
  go_upto_region 2 with (fail)
  go_cut [16] (fun v16 wc => ∃ (kq : Nat) (x16_11 : Bool), v16 = .bool x16_11 ∧ Aside0 (spec_Copy.j0 kq x16_11 l0_0 l0_1 l1_0 l1_1 = some (r1, r2, r3)) ∧ Aside0 (kq ≤ k) ∧ Aside0 (wc.heap[gb168]? = some (.cells #[(.slice A0_0 l0_0.length c0_0), (.slice A0_1 l0_1.length c0_1)] 26 (0, 0))) ∧ Aside0 (wc.heap[gb169]? = some (.cells #[(.slice A1_0 l1_0.length c1_0), (.slice A1_1 l1_1.length c1_1)] 26 (0, 0))) ∧ Aside0 (wc.heap[gb170]? = some (.cells #[(.slice none 0 0), (.slice none 0 0)] 26 (0, 0))) ∧ Aside0 (wc.heap[gb171]? = some (.cells #[(.slice none 0 0), (.slice none 0 0)] 26 (0, 0))) ∧ Aside0 (Below w.heap.size w wc))
  case first =>
   have H := HC12.out
   clear HC12
   replace H := Option.bind_eq_some_iff.mp H
   obtain ⟨t172, A130, H⟩ := H
   replace H : (if t172 = true then ((spec_ArrayOk.f k l1_0 l1_1).bind fun t173 => (spec_Copy.j0 k (!t173) l0_0 l0_1 l1_0 l1_1)) else (spec_Copy.j0 k true l0_0 l0_1 l1_0 l1_1)) = some (r1, r2, r3) := H
   have A13 := Aside0.mk A130
   clear A130
   by_cases c14 : t172 = true
   ·
    subst c14
    have H1 : ((spec_ArrayOk.f k l1_0 l1_1).bind fun t173 => (spec_Copy.j0 k (!t173) l0_0 l0_1 l1_0 l1_1)) = some (r1, r2, r3) := by rw [if_pos rfl] at H; exact H
    clear H
    have H := H1
    clear H1
    replace H := Option.bind_eq_some_iff.mp H
    obtain ⟨t173, A150, H⟩ := H
    replace H : (spec_Copy.j0 k (!t173) l0_0 l0_1 l1_0 l1_1) = some (r1, r2, r3) := H
    have A15 := Aside0.mk A150
    clear A150
    have H' := Aside0.mk H
    clear H
    have hnb16 := NB168_169.out
    have hnc16 := NB169_168.out
    have hnb17 := NB168_170.out
    have hnc17 := NB170_168.out
    have hnb18 := NB168_171.out
    have hnc18 := NB171_168.out
    have hcz19_0 : w7.cell? ⟨gb168, 0, none⟩ = some (.slice A0_0 l0_0.length c0_0) := (blk_cell BK168.out 0).trans rfl
    have hcz19_1 : w7.cell? ⟨gb168, 1, none⟩ = some (.slice A0_1 l0_1.length c0_1) := (blk_cell BK168.out 1).trans rfl
    have hfz19_0 := blk_frozen BK168.out 0
    have hfz19_1 := blk_frozen BK168.out 1
    go_wp2_with (first | ((with_reducible refine gate_callee (f := 34) rfl ?_); refine goesL_ (some 18) rfl rfl Try.func34 (by kernel_rfl) rfl #[.agg #[.slice A0_0 l0_0.length c0_0, .slice A0_1 l0_1.length c0_1]] rfl (by (try simp only [List.map_toArray, List.map_cons, List.map_nil]); first | done | rfl | (simp only [List.length_drop, List.length_take]; rfl)) ?_; (with_reducible refine (spec_ArrayOk.calls k _ _ l0_0 _ _ l0_1 true _ ?side1 ?side2 ?side3 ?side4 A13.out).mono ?_); (case side1 => exact Kd.C_below HR0_0.out (bS4 HB.out GE168.out GE169.out GE170.out GE171.out)); (case side2 => exact HC0_0.out); (case side3 => exact Kd.C_below HR0_1.out (bS4 HB.out GE168.out GE169.out GE170.out GE171.out)); (case side4 => exact HC0_1.out); rintro e w20 ⟨rfl, hb⟩; refine ⟨_, rfl, ?_⟩; replace BK168 := Aside0.mk (blk_below (g := gb168) (o := .cells #[.slice A0_0 l0_0.length c0_0, .slice A0_1 l0_1.length c0_1] 26 (0, 0)) (by (with_reducible repeat (first | refine blk_drewN ?_ _ | refine blk_drew ?_ | refine blk_alloc ?_ _)); refine blk_far ?_ NB168_171.out _; (with_reducible repeat (first | refine blk_drewN ?_ _ | refine blk_drew ?_ | refine blk_alloc ?_ _)); refine blk_far ?_ NB168_171.out _; (with_reducible repeat (first | refine blk_drewN ?_ _ | refine blk_drew ?_ | refine blk_alloc ?_ _)); exact BK168.out) hb); replace BK169 := Aside0.mk (blk_below (g := gb169) (o := .cells #[.slice A1_0 l1_0.length c1_0, .slice A1_1 l1_1.length c1_1] 26 (0, 0)) (by (with_reducible repeat (first | refine blk_drewN ?_ _ | refine blk_drew ?_ | refine blk_alloc ?_ _)); refine blk_far ?_ NB169_171.out _; (with_reducible repeat (first | refine blk_drewN ?_ _ | refine blk_drew ?_ | refine blk_alloc ?_ _)); refine blk_far ?_ NB169_171.out _; (with_reducible repeat (first | refine blk_drewN ?_ _ | refine blk_drew ?_ | refine blk_alloc ?_ _)); exact BK169.out) hb); replace BK170 := Aside0.mk (blk_below (g := gb170) (o := .cells #[.slice none 0 0, .slice none 0 0] 26 (0, 0)) (by (with_reducible repeat (first | refine blk_drewN ?_ _ | refine blk_drew ?_ | refine blk_alloc ?_ _)); refine blk_far ?_ NB170_171.out _; (with_reducible repeat (first | refine blk_drewN ?_ _ | refine blk_drew ?_ | refine blk_alloc ?_ _)); refine blk_far ?_ NB170_171.out _; (with_reducible repeat (first | refine blk_drewN ?_ _ | refine blk_drew ?_ | refine blk_alloc ?_ _)); exact BK170.out) hb); replace BK171 := Aside0.mk (blk_below (g := gb171) (o := .cells #[.slice none 0 0, .slice none 0 0] 26 (0, 0)) (by (with_reducible repeat (first | refine blk_drewN ?_ _ | refine blk_drew ?_ | refine blk_alloc ?_ _)); refine blk_put (cs := #[.slice none 0 0, .slice none 0 0]) ?_ 1 _ rfl; (with_reducible repeat (first | refine blk_drewN ?_ _ | refine blk_drew ?_ | refine blk_alloc ?_ _)); refine blk_put (cs := #[.slice none 0 0, .slice none 0 0]) ?_ 0 _ rfl; (with_reducible repeat (first | refine blk_drewN ?_ _ | refine blk_drew ?_ | refine blk_alloc ?_ _)); exact BK171.out) hb); replace HB := Aside0.mk (below_step (bS4 HB.out GE168.out GE169.out GE170.out GE171.out) hb); (try clear hb); (try clear hb2); (try clear hk); (try clear hi); have hnb21 := NB169_170.out; have hnc21 := NB170_169.out; have hnb22 := NB169_171.out; have hnc22 := NB171_169.out; have hcz23_0 : w20.cell? ⟨gb169, 0, none⟩ = some (.slice A1_0 l1_0.length c1_0) := (blk_cell BK169.out 0).trans rfl; have hcz23_1 : w20.cell? ⟨gb169, 1, none⟩ = some (.slice A1_1 l1_1.length c1_1) := (blk_cell BK169.out 1).trans rfl; have hfz23_0 := blk_frozen BK169.out 0; have hfz23_1 := blk_frozen BK169.out 1) | (go_at_call 34; (repeat rw [i64_w]); (with_reducible refine (spec_ArrayOk.calls k _ _ l1_0 _ _ l1_1 t173 _ ?side1 ?side2 ?side3 ?side4 A15.out).mono ?_); (case side1 => exact cU (Kd.C_below HR1_0.out HB.out)); (case side2 => exact HC1_0.out); (case side3 => exact cU (Kd.C_below HR1_1.out HB.out)); (case side4 => exact HC1_1.out); rintro e w24 ⟨rfl, hb⟩; replace BK168 := Aside0.mk (blk_below (g := gb168) (o := .cells #[.slice A0_0 l0_0.length c0_0, .slice A0_1 l0_1.length c0_1] 26 (0, 0)) (kU BK168.out) hb); replace BK169 := Aside0.mk (blk_below (g := gb169) (o := .cells #[.slice A1_0 l1_0.length c1_0, .slice A1_1 l1_1.length c1_1] 26 (0, 0)) (kU BK169.out) hb); replace BK170 := Aside0.mk (blk_below (g := gb170) (o := .cells #[.slice none 0 0, .slice none 0 0] 26 (0, 0)) (kU BK170.out) hb); replace BK171 := Aside0.mk (blk_below (g := gb171) (o := .cells #[.slice none 0 0, .slice none 0 0] 26 (0, 0)) (kU BK171.out) hb); replace HB := Aside0.mk (below_step (bS4 HB.out GE168.out GE169.out GE170.out GE171.out) hb); (try clear hb); (try clear hb2); (try clear hk); (try clear hi)))
    go_meet
    case rel => exact ⟨_, (!t173), (by first | rfl | (simp; done) | (simp [*]; done)), H', ⟨by first | omega | exact Nat.le_refl _⟩, ⟨by (with_reducible repeat (first | refine blk_drewN ?_ _ | refine blk_drew ?_ | refine blk_alloc ?_ _)); exact BK168.out⟩, ⟨by (with_reducible repeat (first | refine blk_drewN ?_ _ | refine blk_drew ?_ | refine blk_alloc ?_ _)); exact BK169.out⟩, ⟨by (with_reducible repeat (first | refine blk_drewN ?_ _ | refine blk_drew ?_ | refine blk_alloc ?_ _)); exact BK170.out⟩, ⟨by (with_reducible repeat (first | refine blk_drewN ?_ _ | refine blk_drew ?_ | refine blk_alloc ?_ _)); exact BK171.out⟩, ⟨by repeat (first | (with_reducible first | exact HB.out | apply below_alloc | apply pw_below_drewN | apply below_drew1 | refine below_set ?_ GE168.out | refine below_set ?_ GE169.out | refine below_set ?_ GE170.out | refine below_set ?_ GE171.out) | exact HB.out)⟩⟩
   ·
    replace c14 := Bool.eq_false_iff.mpr c14
    subst c14
    have H1 : (spec_Copy.j0 k true l0_0 l0_1 l1_0 l1_1) = some (r1, r2, r3) := by rw [if_neg (show ¬ (false = true) by decide)] at H; exact H
    clear H
    have H := H1
    clear H1
    have H' := Aside0.mk H
    clear H
    have hnb25 := NB168_169.out
    have hnc25 := NB169_168.out
    have hnb26 := NB168_170.out
    have hnc26 := NB170_168.out
    have hnb27 := NB168_171.out
    have hnc27 := NB171_168.out
    have hcz28_0 : w7.cell? ⟨gb168, 0, none⟩ = some (.slice A0_0 l0_0.length c0_0) := (blk_cell BK168.out 0).trans rfl
    have hcz28_1 : w7.cell? ⟨gb168, 1, none⟩ = some (.slice A0_1 l0_1.length c0_1) := (blk_cell BK168.out 1).trans rfl
    have hfz28_0 := blk_frozen BK168.out 0
    have hfz28_1 := blk_frozen BK168.out 1
    go_wp2_with (first | ((with_reducible refine gate_callee (f := 34) rfl ?_); refine goesL_ (some 18) rfl rfl Try.func34 (by kernel_rfl) rfl #[.agg #[.slice A0_0 l0_0.length c0_0, .slice A0_1 l0_1.length c0_1]] rfl (by (try simp only [List.map_toArray, List.map_cons, List.map_nil]); first | done | rfl | (simp only [List.length_drop, List.length_take]; rfl)) ?_; (with_reducible refine (spec_ArrayOk.calls k _ _ l0_0 _ _ l0_1 false _ ?side1 ?side2 ?side3 ?side4 A13.out).mono ?_); (case side1 => exact Kd.C_below HR0_0.out (bS4 HB.out GE168.out GE169.out GE170.out GE171.out)); (case side2 => exact HC0_0.out); (case side3 => exact Kd.C_below HR0_1.out (bS4 HB.out GE168.out GE169.out GE170.out GE171.out)); (case side4 => exact HC0_1.out); rintro e w29 ⟨rfl, hb⟩; refine ⟨_, rfl, ?_⟩; replace BK168 := Aside0.mk (blk_below (g := gb168) (o := .cells #[.slice A0_0 l0_0.length c0_0, .slice A0_1 l0_1.length c0_1] 26 (0, 0)) (by (with_reducible repeat (first | refine blk_drewN ?_ _ | refine blk_drew ?_ | refine blk_alloc ?_ _)); refine blk_far ?_ NB168_171.out _; (with_reducible repeat (first | refine blk_drewN ?_ _ | refine blk_drew ?_ | refine blk_alloc ?_ _)); refine blk_far ?_ NB168_171.out _; (with_reducible repeat (first | refine blk_drewN ?_ _ | refine blk_drew ?_ | refine blk_alloc ?_ _)); exact BK168.out) hb); replace BK169 := Aside0.mk (blk_below (g := gb169) (o := .cells #[.slice A1_0 l1_0.length c1_0, .slice A1_1 l1_1.length c1_1] 26 (0, 0)) (by (with_reducible repeat (first | refine blk_drewN ?_ _ | refine blk_drew ?_ | refine blk_alloc ?_ _)); refine blk_far ?_ NB169_171.out _; (with_reducible repeat (first | refine blk_drewN ?_ _ | refine blk_drew ?_ | refine blk_alloc ?_ _)); refine blk_far ?_ NB169_171.out _; (with_reducible repeat (first | refine blk_drewN ?_ _ | refine blk_drew ?_ | refine blk_alloc ?_ _)); exact BK169.out) hb); replace BK170 := Aside0.mk (blk_below (g := gb170) (o := .cells #[.slice none 0 0, .slice none 0 0] 26 (0, 0)) (by (with_reducible repeat (first | refine blk_drewN ?_ _ | refine blk_drew ?_ | refine blk_alloc ?_ _)); refine blk_far ?_ NB170_171.out _; (with_reducible repeat (first | refine blk_drewN ?_ _ | refine blk_drew ?_ | refine blk_alloc ?_ _)); refine blk_far ?_ NB170_171.out _; (with_reducible repeat (first | refine blk_drewN ?_ _ | refine blk_drew ?_ | refine blk_alloc ?_ _)); exact BK170.out) hb); replace BK171 := Aside0.mk (blk_below (g := gb171) (o := .cells #[.slice none 0 0, .slice none 0 0] 26 (0, 0)) (by (with_reducible repeat (first | refine blk_drewN ?_ _ | refine blk_drew ?_ | refine blk_alloc ?_ _)); refine blk_put (cs := #[.slice none 0 0, .slice none 0 0]) ?_ 1 _ rfl; (with_reducible repeat (first | refine blk_drewN ?_ _ | refine blk_drew ?_ | refine blk_alloc ?_ _)); refine blk_put (cs := #[.slice none 0 0, .slice none 0 0]) ?_ 0 _ rfl; (with_reducible repeat (first | refine blk_drewN ?_ _ | refine blk_drew ?_ | refine blk_alloc ?_ _)); exact BK171.out) hb); replace HB := Aside0.mk (below_step (bS4 HB.out GE168.out GE169.out GE170.out GE171.out) hb); (try clear hb); (try clear hb2); (try clear hk); (try clear hi)))
    go_meet
    case rel => exact ⟨_, (true), (by first | rfl | (simp; done) | (simp [*]; done)), H', ⟨by first | omega | exact Nat.le_refl _⟩, ⟨by (with_reducible repeat (first | refine blk_drewN ?_ _ | refine blk_drew ?_ | refine blk_alloc ?_ _)); exact BK168.out⟩, ⟨by (with_reducible repeat (first | refine blk_drewN ?_ _ | refine blk_drew ?_ | refine blk_alloc ?_ _)); exact BK169.out⟩, ⟨by (with_reducible repeat (first | refine blk_drewN ?_ _ | refine blk_drew ?_ | refine blk_alloc ?_ _)); exact BK170.out⟩, ⟨by (with_reducible repeat (first | refine blk_drewN ?_ _ | refine blk_drew ?_ | refine blk_alloc ?_ _)); exact BK171.out⟩, ⟨by repeat (first | (with_reducible first | exact HB.out | apply below_alloc | apply pw_below_drewN | apply below_drew1 | refine below_set ?_ GE168.out | refine below_set ?_ GE169.out | refine below_set ?_ GE170.out | refine below_set ?_ GE171.out) | exact HB.out)⟩⟩
  case rest =>
   clear HC12
   try clear c1
   try clear c2
   try clear p2
   try clear c3
   try clear c4
   try clear c8
   try clear c9
   try clear c10
   try clear c14
   try clear c16
   try clear c17
   try clear c18
   try clear c21
   try clear c22
   try clear c25
   try clear c26
   try clear c27
   try clear hcz11_0
   try clear hcz11_1
   try clear hcz19_0
   try clear hcz19_1
   try clear hcz23_0
   try clear hcz23_1
   try clear hcz28_0
   try clear hcz28_1
   try clear hfz11_0
   try clear hfz11_1
   try clear hfz19_0
   try clear hfz19_1
   try clear hfz23_0
   try clear hfz23_1
   try clear hfz28_0
   try clear hfz28_1
   obtain ⟨kq, x16_11, rfl, HA, HJ11, BK168, BK169, BK170, BK171, HB⟩ := hcut
   cases kq with
   | zero => exact absurd HA.out (by simp [spec_Copy.j0])
   | succ kj11 =>
    have H := HA.out
    clear HA
    simp only [spec_Copy.j0] at H
    by_cases c30 : x16_11 = true
    ·
     subst c30
     have H1 : (some (([] : List Int), ([] : List Int), 1)) = some (r1, r2, r3) := by rw [if_pos rfl] at H; exact H
     clear H
     have H := H1
     clear H1
     simp only [Option.some.injEq, Prod.mk.injEq] at H
     obtain ⟨rfl, rfl, rfl⟩ := H
     have hnb31 := NB171_168.out
     have hnc31 := NB168_171.out
     have hnb32 := NB171_169.out
     have hnc32 := NB169_171.out
     have hnb33 := NB171_170.out
     have hnc33 := NB170_171.out
     have hcz34_0 : wc.cell? ⟨gb171, 0, none⟩ = some (.slice none 0 0) := (blk_cell BK171.out 0).trans rfl
     have hcz34_1 : wc.cell? ⟨gb171, 1, none⟩ = some (.slice none 0 0) := (blk_cell BK171.out 1).trans rfl
     have hfz34_0 := blk_frozen BK171.out 0
     have hfz34_1 := blk_frozen BK171.out 1
     have hnb35 := NB170_168.out
     have hnc35 := NB168_170.out
     have hnb36 := NB170_169.out
     have hnc36 := NB169_170.out
     have hcz37_0 : wc.cell? ⟨gb170, 0, none⟩ = some (.slice none 0 0) := (blk_cell BK170.out 0).trans rfl
     have hcz37_1 : wc.cell? ⟨gb170, 1, none⟩ = some (.slice none 0 0) := (blk_cell BK170.out 1).trans rfl
     have hfz37_0 := blk_frozen BK170.out 0
     have hfz37_1 := blk_frozen BK170.out 1
     go_wp2
     refine bodyPost_ret (results_ct rfl _ _ gb170 26 #[.slice none 0 0, .slice none 0 0] (0, 0) _ rfl (by (with_reducible repeat (first | refine blk_drewN ?_ _ | refine blk_drew ?_ | refine blk_alloc ?_ _)); refine blk_put (cs := #[.slice none 0 0, .slice none 0 0]) ?_ 1 _ rfl; (with_reducible repeat (first | refine blk_drewN ?_ _ | refine blk_drew ?_ | refine blk_alloc ?_ _)); refine blk_put (cs := #[.slice none 0 0, .slice none 0 0]) ?_ 0 _ rfl; (with_reducible repeat (first | refine blk_drewN ?_ _ | refine blk_drew ?_ | refine blk_alloc ?_ _)); exact BK170.out) Try.underlying26 rfl (by kernel_rfl)) rfl ?_
     exact ⟨_, _, by first | rfl | (simp [errW_none, errW_some] <;> rfl) | (simp [*, errW_none, errW_some] <;> rfl), by first | exact Kd.R_nil _ _ _ _ _ | exact Kd.N_nil _ _ _ _ _ | exact Kd.V_nil _ _ _ _ _ | exact Kd.Q_nil _ _ _ _ _ | exact Kd.S_nil _ _ _ _ _, by first | exact Kd.R_nil _ _ _ _ _ | exact Kd.N_nil _ _ _ _ _ | exact Kd.V_nil _ _ _ _ _ | exact Kd.Q_nil _ _ _ _ _ | exact Kd.S_nil _ _ _ _ _, by repeat (first | (with_reducible first | exact HB.out | apply below_alloc | apply pw_below_drewN | apply below_drew1 | refine below_set ?_ GE168.out | refine below_set ?_ GE169.out | refine below_set ?_ GE170.out | refine below_set ?_ GE171.out) | exact HB.out)⟩
    ·
     replace c30 := Bool.eq_false_iff.mpr c30
     subst c30
     have H1 : (if (l0_0.length : Int) > 1 then (spec_Copy.j1 kj11 true l0_0 l0_1 l1_0 l1_1) else (spec_Copy.j1 kj11 ((l1_0.length : Int) == 0) l0_0 l0_1 l1_0 l1_1)) = some (r1, r2, r3) := by rw [if_neg (show ¬ (false = true) by decide)] at H; exact H
     clear H
     have H := H1
     clear H1
     have HC38 := Aside0.mk H
     clear H
     go_upto_region 4 with (fail)
     go_cut [26] (fun v26 wc => ∃ (kq : Nat) (x26_37 : Bool), v26 = .bool x26_37 ∧ Aside0 (spec_Copy.j1 kq x26_37 l0_0 l0_1 l1_0 l1_1 = some (r1, r2, r3)) ∧ Aside0 (kq ≤ kj11) ∧ Aside0 (wc.heap[gb168]? = some (.cells #[(.slice A0_0 l0_0.length c0_0), (.slice A0_1 l0_1.length c0_1)] 26 (0, 0))) ∧ Aside0 (wc.heap[gb169]? = some (.cells #[(.slice A1_0 l1_0.length c1_0), (.slice A1_1 l1_1.length c1_1)] 26 (0, 0))) ∧ Aside0 (wc.heap[gb170]? = some (.cells #[(.slice none 0 0), (.slice none 0 0)] 26 (0, 0))) ∧ Aside0 (wc.heap[gb171]? = some (.cells #[(.slice none 0 0), (.slice none 0 0)] 26 (0, 0))) ∧ Aside0 (Below w.heap.size w wc))
     case first =>
      have H := HC38.out
      clear HC38
      by_cases c39 : (l0_0.length : Int) > 1
      ·
       rw [if_pos c39] at H
       have c39b0 : decide (1 < (l0_0.length : Int)) = true := decide_eq_true c39
       have c39b1 : decide (1 < l0_0.length) = true := decide_eq_true (by omega)
       clear c39
       (first | rw [c39b0] | (simp only [i64_w, i32_w]; rw [c39b0]) | skip)
       have H' := Aside0.mk H
       clear H
       have hnb40 := NB168_169.out
       have hnc40 := NB169_168.out
       have hnb41 := NB168_170.out
       have hnc41 := NB170_168.out
       have hnb42 := NB168_171.out
       have hnc42 := NB171_168.out
       have hcz43_0 : wc.cell? ⟨gb168, 0, none⟩ = some (.slice A0_0 l0_0.length c0_0) := (blk_cell BK168.out 0).trans rfl
       have hcz43_1 : wc.cell? ⟨gb168, 1, none⟩ = some (.slice A0_1 l0_1.length c0_1) := (blk_cell BK168.out 1).trans rfl
       have hfz43_0 := blk_frozen BK168.out 0
       have hfz43_1 := blk_frozen BK168.out 1
       go_wp2
       go_meet
       case rel => exact ⟨_, (true), (by first | rfl | (simp; done) | (simp [*]; done)), H', ⟨by have := HJ11.out; first | omega | exact Nat.le_refl _⟩, ⟨by (with_reducible repeat (first | refine blk_drewN ?_ _ | refine blk_drew ?_ | refine blk_alloc ?_ _)); exact BK168.out⟩, ⟨by (with_reducible repeat (first | refine blk_drewN ?_ _ | refine blk_drew ?_ | refine blk_alloc ?_ _)); exact BK169.out⟩, ⟨by (with_reducible repeat (first | refine blk_drewN ?_ _ | refine blk_drew ?_ | refine blk_alloc ?_ _)); exact BK170.out⟩, ⟨by (with_reducible repeat (first | refine blk_drewN ?_ _ | refine blk_drew ?_ | refine blk_alloc ?_ _)); exact BK171.out⟩, ⟨by repeat (first | (with_reducible first | exact HB.out | apply below_alloc | apply pw_below_drewN | apply below_drew1 | refine below_set ?_ GE168.out | refine below_set ?_ GE169.out | refine below_set ?_ GE170.out | refine below_set ?_ GE171.out) | exact HB.out)⟩⟩
      ·
       rw [if_neg c39] at H
       have c39b0 : decide (1 < (l0_0.length : Int)) = false := decide_eq_false c39
       have c39b1 : decide (1 < l0_0.length) = false := decide_eq_false (by omega)
       clear c39
       (first | rw [c39b0] | (simp only [i64_w, i32_w]; rw [c39b0]) | skip)
       have H' := Aside0.mk H
       clear H
       have hnb44 := NB168_169.out
       have hnc44 := NB169_168.out
       have hnb45 := NB168_170.out
       have hnc45 := NB170_168.out
       have hnb46 := NB168_171.out
       have hnc46 := NB171_168.out
       have hcz47_0 : wc.cell? ⟨gb168, 0, none⟩ = some (.slice A0_0 l0_0.length c0_0) := (blk_cell BK168.out 0).trans rfl
       have hcz47_1 : wc.cell? ⟨gb168, 1, none⟩ = some (.slice A0_1 l0_1.length c0_1) := (blk_cell BK168.out 1).trans rfl
       have hfz47_0 := blk_frozen BK168.out 0
       have hfz47_1 := blk_frozen BK168.out 1
       have hnb48 := NB169_170.out
       have hnc48 := NB170_169.out
       have hnb49 := NB169_171.out
       have hnc49 := NB171_169.out
       have hcz50_0 : wc.cell? ⟨gb169, 0, none⟩ = some (.slice A1_0 l1_0.length c1_0) := (blk_cell BK169.out 0).trans rfl
       have hcz50_1 : wc.cell? ⟨gb169, 1, none⟩ = some (.slice A1_1 l1_1.length c1_1) := (blk_cell BK169.out 1).trans rfl
       have hfz50_0 := blk_frozen BK169.out 0
       have hfz50_1 := blk_frozen BK169.out 1
       go_wp2
       go_meet
       case rel => exact ⟨_, (((l1_0.length : Int) == 0)), (by first | rfl | (simp; done) | (simp [*]; done)), H', ⟨by have := HJ11.out; first | omega | exact Nat.le_refl _⟩, ⟨by (with_reducible repeat (first | refine blk_drewN ?_ _ | refine blk_drew ?_ | refine blk_alloc ?_ _)); exact BK168.out⟩, ⟨by (with_reducible repeat (first | refine blk_drewN ?_ _ | refine blk_drew ?_ | refine blk_alloc ?_ _)); exact BK169.out⟩, ⟨by (with_reducible repeat (first | refine blk_drewN ?_ _ | refine blk_drew ?_ | refine blk_alloc ?_ _)); exact BK170.out⟩, ⟨by (with_reducible repeat (first | refine blk_drewN ?_ _ | refine blk_drew ?_ | refine blk_alloc ?_ _)); exact BK171.out⟩, ⟨by repeat (first | (with_reducible first | exact HB.out | apply below_alloc | apply pw_below_drewN | apply below_drew1 | refine below_set ?_ GE168.out | refine below_set ?_ GE169.out | refine below_set ?_ GE170.out | refine below_set ?_ GE171.out) | exact HB.out)⟩⟩
     case rest =>
      clear HC38
      try clear c1
      try clear c2
      try clear p2
      try clear c3
      try clear c4
      try clear c8
      try clear c9
      try clear c10
      try clear c14
      try clear c16
      try clear c17
      try clear c18
      try clear c21
      try clear c22
      try clear c25
      try clear c26
      try clear c27
      try clear c30
      try clear c31
      try clear c32
      try clear c33
      try clear c34
      try clear c35
      try clear c36
      try clear c39
      try clear c39b0
      try clear c39b1
      try clear c40
      try clear c41
      try clear c42
      try clear c43
      try clear c44
      try clear c45
      try clear c46
      try clear c48
      try clear c49
      try clear hcz11_0
      try clear hcz11_1
      try clear hcz19_0
      try clear hcz19_1
      try clear hcz23_0
      try clear hcz23_1
      try clear hcz28_0
      try clear hcz28_1
      try clear hcz34_0
      try clear hcz34_1
      try clear hcz37_0
      try clear hcz37_1
      try clear hcz43_0
      try clear hcz43_1
      try clear hcz47_0
      try clear hcz47_1
      try clear hcz50_0
      try clear hcz50_1
      try clear hfz11_0
      try clear hfz11_1
      try clear hfz19_0
      try clear hfz19_1
      try clear hfz23_0
      try clear hfz23_1
      try clear hfz28_0
      try clear hfz28_1
      try clear hfz34_0
      try clear hfz34_1
      try clear hfz37_0
      try clear hfz37_1
      try clear hfz43_0
      try clear hfz43_1
      try clear hfz47_0
      try clear hfz47_1
      try clear hfz50_0
      try clear hfz50_1
      try clear p2
      obtain ⟨kq, x26_37, rfl, HA, HJ37, BK168, BK169, BK170, BK171, HB⟩ := hcut
      cases kq with
      | zero => exact absurd HA.out (by simp [spec_Copy.j1])
      | succ kj37 =>
       have H := HA.out
       clear HA
       simp only [spec_Copy.j1] at H
       by_cases c51 : x26_37 = true
       ·
        subst c51
        have H1 : (some (([] : List Int), ([] : List Int), 4)) = some (r1, r2, r3) := by rw [if_pos rfl] at H; exact H
        clear H
        have H := H1
        clear H1
        simp only [Option.some.injEq, Prod.mk.injEq] at H
        obtain ⟨rfl, rfl, rfl⟩ := H
        have hnb52 := NB171_168.out
        have hnc52 := NB168_171.out
        have hnb53 := NB171_169.out
        have hnc53 := NB169_171.out
        have hnb54 := NB171_170.out
        have hnc54 := NB170_171.out
        have hcz55_0 : wc.cell? ⟨gb171, 0, none⟩ = some (.slice none 0 0) := (blk_cell BK171.out 0).trans rfl
        have hcz55_1 : wc.cell? ⟨gb171, 1, none⟩ = some (.slice none 0 0) := (blk_cell BK171.out 1).trans rfl
        have hfz55_0 := blk_frozen BK171.out 0
        have hfz55_1 := blk_frozen BK171.out 1
        have hnb56 := NB170_168.out
        have hnc56 := NB168_170.out
        have hnb57 := NB170_169.out
        have hnc57 := NB169_170.out
        have hcz58_0 : wc.cell? ⟨gb170, 0, none⟩ = some (.slice none 0 0) := (blk_cell BK170.out 0).trans rfl
        have hcz58_1 : wc.cell? ⟨gb170, 1, none⟩ = some (.slice none 0 0) := (blk_cell BK170.out 1).trans rfl
        have hfz58_0 := blk_frozen BK170.out 0
        have hfz58_1 := blk_frozen BK170.out 1
        go_wp2
        refine bodyPost_ret (results_ct rfl _ _ gb170 26 #[.slice none 0 0, .slice none 0 0] (0, 0) _ rfl (by (with_reducible repeat (first | refine blk_drewN ?_ _ | refine blk_drew ?_ | refine blk_alloc ?_ _)); refine blk_put (cs := #[.slice none 0 0, .slice none 0 0]) ?_ 1 _ rfl; (with_reducible repeat (first | refine blk_drewN ?_ _ | refine blk_drew ?_ | refine blk_alloc ?_ _)); refine blk_put (cs := #[.slice none 0 0, .slice none 0 0]) ?_ 0 _ rfl; (with_reducible repeat (first | refine blk_drewN ?_ _ | refine blk_drew ?_ | refine blk_alloc ?_ _)); exact BK170.out) Try.underlying26 rfl (by kernel_rfl)) rfl ?_
        exact ⟨_, _, by first | rfl | (simp [errW_none, errW_some] <;> rfl) | (simp [*, errW_none, errW_some] <;> rfl), by first | exact Kd.R_nil _ _ _ _ _ | exact Kd.N_nil _ _ _ _ _ | exact Kd.V_nil _ _ _ _ _ | exact Kd.Q_nil _ _ _ _ _ | exact Kd.S_nil _ _ _ _ _, by first | exact Kd.R_nil _ _ _ _ _ | exact Kd.N_nil _ _ _ _ _ | exact Kd.V_nil _ _ _ _ _ | exact Kd.Q_nil _ _ _ _ _ | exact Kd.S_nil _ _ _ _ _, by repeat (first | (with_reducible first | exact HB.out | apply below_alloc | apply pw_below_drewN | apply below_drew1 | refine below_set ?_ GE168.out | refine below_set ?_ GE169.out | refine below_set ?_ GE170.out | refine below_set ?_ GE171.out) | exact HB.out)⟩
       ·
        replace c51 := Bool.eq_false_iff.mpr c51
        subst c51
        have H1 : (if (l0_1.length : Int) = 1 then (spec_Copy.j2 kj37 l0_0 l0_1 l1_0 l1_1) else (if 0 < (l1_0.length : Int) then (if (l0_1.length : Int) = (rd l1_0 0) then (spec_Copy.j2 kj37 l0_0 l0_1 l1_0 l1_1) else (some (([] : List Int), ([] : List Int), 3))) else (none))) = some (r1, r2, r3) := by rw [if_neg (show ¬ (false = true) by decide)] at H; exact H
        clear H
        have H := H1
        clear H1
        by_cases c59 : (l0_1.length : Int) = 1
        ·
         rw [if_pos c59] at H
         have c59b0 : ((l0_1.length : Int) == 1) = true := beq_iff_eq.mpr c59
         have c59b1 : ((l0_1.length : Int) != 1) = false := bne_eq_false_iff_eq.mpr c59
         clear c59
         have H' := Aside0.mk H
         clear H
         try go_wp2
         replace BK168 := Aside0.mk (blk_drew BK168.out)
         replace BK169 := Aside0.mk (blk_drew BK169.out)
         replace BK170 := Aside0.mk (blk_drew BK170.out)
         replace BK171 := Aside0.mk (blk_drew BK171.out)
         replace HB := Aside0.mk (below_drew1 HB.out)
         refine start_ (n := 15) (S := fun w' => w'.cell? ⟨gb168, 0, none⟩ = some (.slice A0_0 l0_0.length c0_0) ∧ w'.cell? ⟨gb168, 1, none⟩ = some (.slice A0_1 l0_1.length c0_1)) (ds := []) #[false, false, false, false, false, false, false, false, false, false, false, false, false, false, false] (by kernel_rfl) rfl rfl ⟨(blk_cell BK168.out 0).trans rfl, (blk_cell BK168.out 1).trans rfl⟩ (fun hHeld => ?_); refine with_tabW spec_Copy.tab6 spec_Copy.bits6 (fun HT_ HW_ => ?_)
         generalize wc.drew = w60 at BK168 BK169 BK170 BK171 HB hHeld ⊢
         refine pure_ (i := 0) (N := some 39) (v := ?_) (a' := ?_) #[true, false, false, false, false, false, false, false, false, false, false, false, false, false, false] rfl rfl (any_of HT_.out (by kernel_rfl)) (fun _ _ _ h => h) (Or.inl ⟨by rfl, ?_⟩) ?_ ?_
         rotate_left
         ·
          intro w'
          go_simp
          with_reducible rfl
         rotate_left
         ·
          simp only [Act.put, List.setIfInBounds_toArray, List.set_cons_zero, List.set_cons_succ, i64_w, i32_w]
          rfl
         refine take_ (i := 1) (N := some 40) (v := ?_) (a' := ?_) #[true, true, false, false, false, false, false, false, false, false, false, false, false, false, false] rfl rfl (take_ofW HT_.out HW_.out (by kernel_rfl)) (fun _ _ _ h => h) (Or.inl ⟨by rfl, ?_⟩) hHeld ?_ ?_
         rotate_left
         ·
          rintro w' ⟨s0, s1⟩
          go_simp
          with_reducible rfl
         rotate_left
         ·
          simp only [Act.put, List.setIfInBounds_toArray, List.set_cons_zero, List.set_cons_succ, i64_w, i32_w]
          rfl
         refine pure_ (i := 2) (N := some 41) (v := ?_) (a' := ?_) #[true, true, true, false, false, false, false, false, false, false, false, false, false, false, false] rfl rfl (any_of HT_.out (by kernel_rfl)) (fun _ _ _ h => h) (Or.inl ⟨by rfl, ?_⟩) ?_ ?_
         rotate_left
         ·
          intro w'
          go_simp
          with_reducible rfl
         rotate_left
         ·
          simp only [Act.put, List.setIfInBounds_toArray, List.set_cons_zero, List.set_cons_succ, i64_w, i32_w]
          rfl
         refine pure_ (i := 3) (N := some 42) (v := ?_) (a' := ?_) #[true, true, true, true, false, false, false, false, false, false, false, false, false, false, false] rfl rfl (any_of HT_.out (by kernel_rfl)) (fun _ _ _ h => h) (Or.inl ⟨by rfl, ?_⟩) ?_ ?_
         rotate_left
         ·
          intro w'
          go_simp
          with_reducible rfl
         rotate_left
         ·
          simp only [Act.put, List.setIfInBounds_toArray, List.set_cons_zero, List.set_cons_succ, i64_w, i32_w]
          rfl
         refine pure_ (i := 4) (N := some 43) (v := ?_) (a' := ?_) #[true, true, true, true, true, false, false, false, false, false, false, false, false, false, false] rfl rfl (any_of HT_.out (by kernel_rfl)) (fun _ _ _ h => h) (Or.inl ⟨by rfl, ?_⟩) ?_ ?_
         rotate_left
         ·
          intro w'
          go_simp
          with_reducible rfl
         rotate_left
         ·
          simp only [Act.put, List.setIfInBounds_toArray, List.set_cons_zero, List.set_cons_succ, i64_w, i32_w]
          rfl
         refine pure_ (i := 5) (N := some 44) (v := undef) (a' := ?_) #[true, true, true, true, true, true, false, false, false, false, false, false, false, false, false] rfl rfl (any_of HT_.out (by kernel_rfl)) (fun _ _ _ h => h) (Or.inr ⟨by rfl, rfl⟩) ?_ ?_
         rotate_left
         ·
          simp only [Act.put, List.setIfInBounds_toArray, List.set_cons_zero, List.set_cons_succ, i64_w, i32_w]
          rfl
         refine pure_ (i := 6) (N := some 45) (v := undef) (a' := ?_) #[true, true, true, true, true, true, true, false, false, false, false, false, false, false, false] rfl rfl (any_of HT_.out (by kernel_rfl)) (fun _ _ _ h => h) (Or.inr ⟨by rfl, rfl⟩) ?_ ?_
         rotate_left
         ·
          simp only [Act.put, List.setIfInBounds_toArray, List.set_cons_zero, List.set_cons_succ, i64_w, i32_w]
          rfl
         refine pure_ (i := 7) (N := some 46) (v := undef) (a' := ?_) #[true, true, true, true, true, true, true, true, false, false, false, false, false, false, false] rfl rfl (any_of HT_.out (by kernel_rfl)) (fun _ _ _ h => h) (Or.inr ⟨by rfl, rfl⟩) ?_ ?_
         rotate_left
         ·
          simp only [Act.put, List.setIfInBounds_toArray, List.set_cons_zero, List.set_cons_succ, i64_w, i32_w]
          rfl
         refine pure_ (i := 8) (N := some 47) (v := undef) (a' := ?_) #[true, true, true, true, true, true, true, true, true, false, false, false, false, false, false] rfl rfl (any_of HT_.out (by kernel_rfl)) (fun _ _ _ h => h) (Or.inr ⟨by rfl, rfl⟩) ?_ ?_
         rotate_left
         ·
          simp only [Act.put, List.setIfInBounds_toArray, List.set_cons_zero, List.set_cons_succ, i64_w, i32_w]
          rfl
         refine pure_ (i := 9) (N := some 48) (v := undef) (a' := ?_) #[true, true, true, true, true, true, true, true, true, true, false, false, false, false, false] rfl rfl (any_of HT_.out (by kernel_rfl)) (fun _ _ _ h => h) (Or.inr ⟨by rfl, rfl⟩) ?_ ?_
         rotate_left
         ·
          simp only [Act.put, List.setIfInBounds_toArray, List.set_cons_zero, List.set_cons_succ, i64_w, i32_w]
          rfl
         refine pure_ (i := 10) (N := some 49) (v := undef) (a' := ?_) #[true, true, true, true, true, true, true, true, true, true, true, false, false, false, false] rfl rfl (any_of HT_.out (by kernel_rfl)) (fun _ _ _ h => h) (Or.inr ⟨by rfl, rfl⟩) ?_ ?_
         rotate_left
         ·
          simp only [Act.put, List.setIfInBounds_toArray, List.set_cons_zero, List.set_cons_succ, i64_w, i32_w]
          rfl
         refine pure_ (i := 11) (N := some 50) (v := undef) (a' := ?_) #[true, true, true, true, true, true, true, true, true, true, true, true, false, false, false] rfl rfl (any_of HT_.out (by kernel_rfl)) (fun _ _ _ h => h) (Or.inr ⟨by rfl, rfl⟩) ?_ ?_
         rotate_left
         ·
          simp only [Act.put, List.setIfInBounds_toArray, List.set_cons_zero, List.set_cons_succ, i64_w, i32_w]
          rfl
         refine pure_ (i := 12) (N := some 51) (v := undef) (a' := ?_) #[true, true, true, true, true, true, true, true, true, true, true, true, true, false, false] rfl rfl (any_of HT_.out (by kernel_rfl)) (fun _ _ _ h => h) (Or.inr ⟨by rfl, rfl⟩) ?_ ?_
         rotate_left
         ·
          simp only [Act.put, List.setIfInBounds_toArray, List.set_cons_zero, List.set_cons_succ, i64_w, i32_w]
          rfl
         refine pure_ (i := 13) (N := some 52) (v := ?_) (a' := ?_) #[true, true, true, true, true, true, true, true, true, true, true, true, true, true, false] rfl rfl (any_of HT_.out (by kernel_rfl)) (fun _ _ _ h => h) (Or.inl ⟨by rfl, ?_⟩) ?_ ?_
         rotate_left
         ·
          intro w'
          go_simp
          with_reducible rfl
         rotate_left
         ·
          simp only [Act.put, List.setIfInBounds_toArray, List.set_cons_zero, List.set_cons_succ, i64_w, i32_w]
          rfl
         refine pure_ (i := 14) (N := some 38) (v := ?_) (a' := ?_) #[true, true, true, true, true, true, true, true, true, true, true, true, true, true, true] rfl rfl (any_of HT_.out (by kernel_rfl)) (fun _ _ _ h => h) (Or.inl ⟨by rfl, ?_⟩) ?_ ?_
         rotate_left
         ·
          intro w'
          go_simp
          with_reducible rfl
         rotate_left
         ·
          simp only [Act.put, List.setIfInBounds_toArray, List.set_cons_zero, List.set_cons_succ, i64_w, i32_w]
          rfl
         refine done_ (done_of HT_.out (by kernel_rfl)) ?_
         try go_wp2
         go_meet
         case rel => exact ⟨_, H', ⟨by have := HJ11.out; have := HJ37.out; first | omega | exact Nat.le_refl _⟩, ⟨by (with_reducible repeat (first | refine blk_drewN ?_ _ | refine blk_drew ?_ | refine blk_alloc ?_ _)); exact BK168.out⟩, ⟨by (with_reducible repeat (first | refine blk_drewN ?_ _ | refine blk_drew ?_ | refine blk_alloc ?_ _)); exact BK169.out⟩, ⟨by (with_reducible repeat (first | refine blk_drewN ?_ _ | refine blk_drew ?_ | refine blk_alloc ?_ _)); exact BK170.out⟩, ⟨by (with_reducible repeat (first | refine blk_drewN ?_ _ | refine blk_drew ?_ | refine blk_alloc ?_ _)); exact BK171.out⟩, ⟨by repeat (first | (with_reducible first | exact HB.out | apply below_alloc | apply pw_below_drewN | apply below_drew1 | refine below_set ?_ GE168.out | refine below_set ?_ GE169.out | refine below_set ?_ GE170.out | refine below_set ?_ GE171.out) | exact HB.out)⟩⟩
        ·
         rw [if_neg c59] at H
         have c59b0 : ((l0_1.length : Int) == 1) = false := beq_eq_false_iff_ne.mpr c59
         have c59b1 : ((l0_1.length : Int) != 1) = true := bne_iff_ne.mpr c59
         by_cases c61 : 0 < (l1_0.length : Int)
         ·
          rw [if_pos c61] at H
          have c61b0 : decide (0 < (l1_0.length : Int)) = true := decide_eq_true c61
          have c61b1 : decide (0 < l1_0.length) = true := decide_eq_true (by omega)
          clear c61
          by_cases c62 : (l0_1.length : Int) = (rd l1_0 0)
          ·
           rw [if_pos c62] at H
           have c62b0 : ((l0_1.length : Int) == (rd l1_0 0)) = true := beq_iff_eq.mpr c62
           have c62b1 : ((l0_1.length : Int) != (rd l1_0 0)) = false := bne_eq_false_iff_eq.mpr c62
           clear c62
           have H' := Aside0.mk H
           clear H
           try go_wp2
           replace BK168 := Aside0.mk (blk_drew BK168.out)
           replace BK169 := Aside0.mk (blk_drew BK169.out)
           replace BK170 := Aside0.mk (blk_drew BK170.out)
           replace BK171 := Aside0.mk (blk_drew BK171.out)
           replace HB := Aside0.mk (below_drew1 HB.out)
           have p174 : 0 ≤ (0 : Int) := (by omega)
           have q174 : 0 < (l1_0.length : Int) := of_decide_eq_true (by first | (with_reducible assumption) | assumption)
           obtain ⟨ad174, e174, hx174_0⟩ := Kd.at_int HR1_0.out 0 p174 q174
           have hw174_0 := hx174_0
           (try rw [show ((0 : Int)).toNat = 0 from rfl] at hw174_0)
           (try rw [show 0 * 1 = 0 from rfl] at hw174_0)
           (try rw [Addr.add_zero'] at hw174_0)
           cases e174
           have qi174 : (0 < l1_0.length) = True := eq_true (by omega)
           (try rw [show ((0 : Int)).toNat = 0 from rfl] at hx174_0)
           (try rw [Addr.add_zero'] at hx174_0)
           replace hx174_0 := (HB.out.cell (World.block_lt_of_cell? w _ hx174_0)).trans hx174_0
           replace p174 := eq_true p174
           replace q174 := eq_true q174
           refine start_ (n := 15) (S := fun w' => w'.cell? ⟨gb168, 0, none⟩ = some (.slice A0_0 l0_0.length c0_0) ∧ w'.cell? ⟨gb168, 1, none⟩ = some (.slice A0_1 l0_1.length c0_1) ∧ w'.cell? ⟨gb169, 0, none⟩ = some (.slice (some ad174) l1_0.length c1_0) ∧ w'.cell? ⟨gb169, 1, none⟩ = some (.slice A1_1 l1_1.length c1_1) ∧ w'.cell? ad174 = some (.int .i64 (rd l1_0 0))) (ds := []) #[false, false, false, false, false, false, false, false, false, false, false, false, false, false, false] (by kernel_rfl) rfl rfl ⟨(blk_cell BK168.out 0).trans rfl, (blk_cell BK168.out 1).trans rfl, (blk_cell BK169.out 0).trans rfl, (blk_cell BK169.out 1).trans rfl, ((HB.out.cell (World.block_lt_of_cell? w _ hw174_0)).trans hw174_0)⟩ (fun hHeld => ?_); refine with_tabW spec_Copy.tab6 spec_Copy.bits6 (fun HT_ HW_ => ?_)
           generalize wc.drew = w63 at BK168 BK169 BK170 BK171 HB hx174_0 hHeld ⊢
           refine pure_ (i := 0) (N := some 39) (v := ?_) (a' := ?_) #[true, false, false, false, false, false, false, false, false, false, false, false, false, false, false] rfl rfl (any_of HT_.out (by kernel_rfl)) (fun _ _ _ h => h) (Or.inl ⟨by rfl, ?_⟩) ?_ ?_
           rotate_left
           ·
            intro w'
            go_simp
            with_reducible rfl
           rotate_left
           ·
            simp only [Act.put, List.setIfInBounds_toArray, List.set_cons_zero, List.set_cons_succ, i64_w, i32_w]
            rfl
           refine take_ (i := 1) (N := some 40) (v := ?_) (a' := ?_) #[true, true, false, false, false, false, false, false, false, false, false, false, false, false, false] rfl rfl (take_ofW HT_.out HW_.out (by kernel_rfl)) (fun _ _ _ h => h) (Or.inl ⟨by rfl, ?_⟩) hHeld ?_ ?_
           rotate_left
           ·
            rintro w' ⟨s0, s1, s2, s3, s4⟩
            go_simp
            with_reducible rfl
           rotate_left
           ·
            simp only [Act.put, List.setIfInBounds_toArray, List.set_cons_zero, List.set_cons_succ, i64_w, i32_w]
            rfl
           refine pure_ (i := 2) (N := some 41) (v := ?_) (a' := ?_) #[true, true, true, false, false, false, false, false, false, false, false, false, false, false, false] rfl rfl (any_of HT_.out (by kernel_rfl)) (fun _ _ _ h => h) (Or.inl ⟨by rfl, ?_⟩) ?_ ?_
           rotate_left
           ·
            intro w'
            go_simp
            with_reducible rfl
           rotate_left
           ·
            simp only [Act.put, List.setIfInBounds_toArray, List.set_cons_zero, List.set_cons_succ, i64_w, i32_w]
            rfl
           refine pure_ (i := 3) (N := some 42) (v := ?_) (a' := ?_) #[true, true, true, true, false, false, false, false, false, false, false, false, false, false, false] rfl rfl (any_of HT_.out (by kernel_rfl)) (fun _ _ _ h => h) (Or.inl ⟨by rfl, ?_⟩) ?_ ?_
           rotate_left
           ·
            intro w'
            go_simp
            with_reducible rfl
           rotate_left
           ·
            simp only [Act.put, List.setIfInBounds_toArray, List.set_cons_zero, List.set_cons_succ, i64_w, i32_w]
            rfl
           refine pure_ (i := 4) (N := some 43) (v := ?_) (a' := ?_) #[true, true, true, true, true, false, false, false, false, false, false, false, false, false, false] rfl rfl (any_of HT_.out (by kernel_rfl)) (fun _ _ _ h => h) (Or.inl ⟨by rfl, ?_⟩) ?_ ?_
           rotate_left
           ·
            intro w'
            go_simp
            with_reducible rfl
           rotate_left
           ·
            simp only [Act.put, List.setIfInBounds_toArray, List.set_cons_zero, List.set_cons_succ, i64_w, i32_w]
            rfl
           refine pure_ (i := 5) (N := some 44) (v := ?_) (a' := ?_) #[true, true, true, true, true, true, false, false, false, false, false, false, false, false, false] rfl rfl (any_of HT_.out (by kernel_rfl)) (fun _ _ _ h => h) (Or.inl ⟨by rfl, ?_⟩) ?_ ?_
           rotate_left
           ·
            intro w'
            go_simp
            with_reducible rfl
           rotate_left
           ·
            simp only [Act.put, List.setIfInBounds_toArray, List.set_cons_zero, List.set_cons_succ, i64_w, i32_w]
            rfl
           refine pure_ (i := 8) (N := some 47) (v := ?_) (a' := ?_) #[true, true, true, true, true, true, false, false, true, false, false, false, false, false, false] rfl rfl (any_of HT_.out (by kernel_rfl)) (fun _ _ _ h => h) (Or.inl ⟨by rfl, ?_⟩) ?_ ?_
           rotate_left
           ·
            intro w'
            go_simp
            with_reducible rfl
           rotate_left
           ·
            simp only [Act.put, List.setIfInBounds_toArray, List.set_cons_zero, List.set_cons_succ, i64_w, i32_w]
            rfl
           refine take_ (i := 6) (N := some 45) (v := ?_) (a' := ?_) #[true, true, true, true, true, true, true, false, true, false, false, false, false, false, false] rfl rfl (take_ofW HT_.out HW_.out (by kernel_rfl)) (fun _ _ _ h => h) (Or.inl ⟨by rfl, ?_⟩) hHeld ?_ ?_
           rotate_left
           ·
            rintro w' ⟨s0, s1, s2, s3, s4⟩
            go_simp
            with_reducible rfl
           rotate_left
           ·
            simp only [Act.put, List.setIfInBounds_toArray, List.set_cons_zero, List.set_cons_succ, i64_w, i32_w]
            rfl
           refine pure_ (i := 7) (N := some 46) (v := ?_) (a' := ?_) #[true, true, true, true, true, true, true, true, true, false, false, false, false, false, false] rfl rfl (any_of HT_.out (by kernel_rfl)) (fun _ _ _ h => h) (Or.inl ⟨by rfl, ?_⟩) ?_ ?_
           rotate_left
           ·
            intro w'
            go_simp
            with_reducible rfl
           rotate_left
           ·
            simp only [Act.put, List.setIfInBounds_toArray, List.set_cons_zero, List.set_cons_succ, i64_w, i32_w]
            rfl
           refine take_ (i := 9) (N := some 48) (v := ?_) (a' := ?_) #[true, true, true, true, true, true, true, true, true, true, false, false, false, false, false] rfl rfl (take_ofW HT_.out HW_.out (by kernel_rfl)) (fun _ _ _ h => h) (Or.inl ⟨by rfl, ?_⟩) hHeld ?_ ?_
           rotate_left
           ·
            rintro w' ⟨s0, s1, s2, s3, s4⟩
            go_simp
            with_reducible rfl
           rotate_left
           ·
            simp only [Act.put, List.setIfInBounds_toArray, List.set_cons_zero, List.set_cons_succ, i64_w, i32_w]
            rfl
           refine pure_ (i := 10) (N := some 49) (v := ?_) (a' := ?_) #[true, true, true, true, true, true, true, true, true, true, true, false, false, false, false] rfl rfl (any_of HT_.out (by kernel_rfl)) (fun _ _ _ h => h) (Or.inl ⟨by rfl, ?_⟩) ?_ ?_
           rotate_left
           ·
            intro w'
            go_simp
            with_reducible rfl
           rotate_left
           ·
            simp only [Act.put, List.setIfInBounds_toArray, List.set_cons_zero, List.set_cons_succ, i64_w, i32_w]
            rfl
           refine take_ (i := 11) (N := some 50) (v := ?_) (a' := ?_) #[true, true, true, true, true, true, true, true, true, true, true, true, false, false, false] rfl rfl (take_ofW HT_.out HW_.out (by kernel_rfl)) (fun _ _ _ h => h) (Or.inl ⟨by rfl, ?_⟩) hHeld ?_ ?_
           rotate_left
           ·
            rintro w' ⟨s0, s1, s2, s3, s4⟩
            go_simp
            with_reducible rfl
           rotate_left
           ·
            simp only [Act.put, List.setIfInBounds_toArray, List.set_cons_zero, List.set_cons_succ, i64_w, i32_w]
            rfl
           refine pure_ (i := 12) (N := some 51) (v := ?_) (a' := ?_) #[true, true, true, true, true, true, true, true, true, true, true, true, true, false, false] rfl rfl (any_of HT_.out (by kernel_rfl)) (fun _ _ _ h => h) (Or.inl ⟨by rfl, ?_⟩) ?_ ?_
           rotate_left
           ·
            intro w'
            go_simp
            with_reducible rfl
           rotate_left
           ·
            simp only [Act.put, List.setIfInBounds_toArray, List.set_cons_zero, List.set_cons_succ, i64_w, i32_w]
            rfl
           refine pure_ (i := 13) (N := some 52) (v := ?_) (a' := ?_) #[true, true, true, true, true, true, true, true, true, true, true, true, true, true, false] rfl rfl (any_of HT_.out (by kernel_rfl)) (fun _ _ _ h => h) (Or.inl ⟨by rfl, ?_⟩) ?_ ?_
           rotate_left
           ·
            intro w'
            go_simp
            with_reducible rfl
           rotate_left
           ·
            simp only [Act.put, List.setIfInBounds_toArray, List.set_cons_zero, List.set_cons_succ, i64_w, i32_w]
            rfl
           refine pure_ (i := 14) (N := some 38) (v := ?_) (a' := ?_) #[true, true, true, true, true, true, true, true, true, true, true, true, true, true, true] rfl rfl (any_of HT_.out (by kernel_rfl)) (fun _ _ _ h => h) (Or.inl ⟨by rfl, ?_⟩) ?_ ?_
           rotate_left
           ·
            intro w'
            go_simp
            with_reducible rfl
           rotate_left
           ·
            simp only [Act.put, List.setIfInBounds_toArray, List.set_cons_zero, List.set_cons_succ, i64_w, i32_w]
            rfl
           refine done_ (done_of HT_.out (by kernel_rfl)) ?_
           try go_wp2
           go_meet
           case rel => exact ⟨_, H', ⟨by have := HJ11.out; have := HJ37.out; first | omega | exact Nat.le_refl _⟩, ⟨by (with_reducible repeat (first | refine blk_drewN ?_ _ | refine blk_drew ?_ | refine blk_alloc ?_ _)); exact BK168.out⟩, ⟨by (with_reducible repeat (first | refine blk_drewN ?_ _ | refine blk_drew ?_ | refine blk_alloc ?_ _)); exact BK169.out⟩, ⟨by (with_reducible repeat (first | refine blk_drewN ?_ _ | refine blk_drew ?_ | refine blk_alloc ?_ _)); exact BK170.out⟩, ⟨by (with_reducible repeat (first | refine blk_drewN ?_ _ | refine blk_drew ?_ | refine blk_alloc ?_ _)); exact BK171.out⟩, ⟨by repeat (first | (with_reducible first | exact HB.out | apply below_alloc | apply pw_below_drewN | apply below_drew1 | refine below_set ?_ GE168.out | refine below_set ?_ GE169.out | refine below_set ?_ GE170.out | refine below_set ?_ GE171.out) | exact HB.out)⟩⟩
          ·
           rw [if_neg c62] at H
           have c62b0 : ((l0_1.length : Int) == (rd l1_0 0)) = false := beq_eq_false_iff_ne.mpr c62
           have c62b1 : ((l0_1.length : Int) != (rd l1_0 0)) = true := bne_iff_ne.mpr c62
           simp only [Option.some.injEq, Prod.mk.injEq] at H
           obtain ⟨rfl, rfl, rfl⟩ := H
           try go_wp2
           replace BK168 := Aside0.mk (blk_drew BK168.out)
           replace BK169 := Aside0.mk (blk_drew BK169.out)
           replace BK170 := Aside0.mk (blk_drew BK170.out)
           replace BK171 := Aside0.mk (blk_drew BK171.out)
           replace HB := Aside0.mk (below_drew1 HB.out)
           have p174 : 0 ≤ (0 : Int) := (by omega)
           have q174 : 0 < (l1_0.length : Int) := of_decide_eq_true (by first | (with_reducible assumption) | assumption)
           obtain ⟨ad174, e174, hx174_0⟩ := Kd.at_int HR1_0.out 0 p174 q174
           have hw174_0 := hx174_0
           (try rw [show ((0 : Int)).toNat = 0 from rfl] at hw174_0)
           (try rw [show 0 * 1 = 0 from rfl] at hw174_0)
           (try rw [Addr.add_zero'] at hw174_0)
           cases e174
           have qi174 : (0 < l1_0.length) = True := eq_true (by omega)
           (try rw [show ((0 : Int)).toNat = 0 from rfl] at hx174_0)
           (try rw [Addr.add_zero'] at hx174_0)
           replace hx174_0 := (HB.out.cell (World.block_lt_of_cell? w _ hx174_0)).trans hx174_0
           replace p174 := eq_true p174
           replace q174 := eq_true q174
           refine start_ (n := 15) (S := fun w' => w'.cell? ⟨gb168, 0, none⟩ = some (.slice A0_0 l0_0.length c0_0) ∧ w'.cell? ⟨gb168, 1, none⟩ = some (.slice A0_1 l0_1.length c0_1) ∧ w'.cell? ⟨gb169, 0, none⟩ = some (.slice (some ad174) l1_0.length c1_0) ∧ w'.cell? ⟨gb169, 1, none⟩ = some (.slice A1_1 l1_1.length c1_1) ∧ w'.cell? ad174 = some (.int .i64 (rd l1_0 0))) (ds := []) #[false, false, false, false, false, false, false, false, false, false, false, false, false, false, false] (by kernel_rfl) rfl rfl ⟨(blk_cell BK168.out 0).trans rfl, (blk_cell BK168.out 1).trans rfl, (blk_cell BK169.out 0).trans rfl, (blk_cell BK169.out 1).trans rfl, ((HB.out.cell (World.block_lt_of_cell? w _ hw174_0)).trans hw174_0)⟩ (fun hHeld => ?_); refine with_tabW spec_Copy.tab6 spec_Copy.bits6 (fun HT_ HW_ => ?_)
           generalize wc.drew = w64 at BK168 BK169 BK170 BK171 HB hx174_0 hHeld ⊢
           refine pure_ (i := 0) (N := some 39) (v := ?_) (a' := ?_) #[true, false, false, false, false, false, false, false, false, false, false, false, false, false, false] rfl rfl (any_of HT_.out (by kernel_rfl)) (fun _ _ _ h => h) (Or.inl ⟨by rfl, ?_⟩) ?_ ?_
           rotate_left
           ·
            intro w'
            go_simp
            with_reducible rfl
           rotate_left
           ·
            simp only [Act.put, List.setIfInBounds_toArray, List.set_cons_zero, List.set_cons_succ, i64_w, i32_w]
            rfl
           refine take_ (i := 1) (N := some 40) (v := ?_) (a' := ?_) #[true, true, false, false, false, false, false, false, false, false, false, false, false, false, false] rfl rfl (take_ofW HT_.out HW_.out (by kernel_rfl)) (fun _ _ _ h => h) (Or.inl ⟨by rfl, ?_⟩) hHeld ?_ ?_
           rotate_left
           ·
            rintro w' ⟨s0, s1, s2, s3, s4⟩
            go_simp
            with_reducible rfl
           rotate_left
           ·
            simp only [Act.put, List.setIfInBounds_toArray, List.set_cons_zero, List.set_cons_succ, i64_w, i32_w]
            rfl
           refine pure_ (i := 2) (N := some 41) (v := ?_) (a' := ?_) #[true, true, true, false, false, false, false, false, false, false, false, false, false, false, false] rfl rfl (any_of HT_.out (by kernel_rfl)) (fun _ _ _ h => h) (Or.inl ⟨by rfl, ?_⟩) ?_ ?_
           rotate_left
           ·
            intro w'
            go_simp
            with_reducible rfl
           rotate_left
           ·
            simp only [Act.put, List.setIfInBounds_toArray, List.set_cons_zero, List.set_cons_succ, i64_w, i32_w]
            rfl
           refine pure_ (i := 3) (N := some 42) (v := ?_) (a' := ?_) #[true, true, true, true, false, false, false, false, false, false, false, false, false, false, false] rfl rfl (any_of HT_.out (by kernel_rfl)) (fun _ _ _ h => h) (Or.inl ⟨by rfl, ?_⟩) ?_ ?_
           rotate_left
           ·
            intro w'
            go_simp
            with_reducible rfl
           rotate_left
           ·
            simp only [Act.put, List.setIfInBounds_toArray, List.set_cons_zero, List.set_cons_succ, i64_w, i32_w]
            rfl
           refine pure_ (i := 4) (N := some 43) (v := ?_) (a' := ?_) #[true, true, true, true, true, false, false, false, false, false, false, false, false, false, false] rfl rfl (any_of HT_.out (by kernel_rfl)) (fun _ _ _ h => h) (Or.inl ⟨by rfl, ?_⟩) ?_ ?_
           rotate_left
           ·
            intro w'
            go_simp
            with_reducible rfl
           rotate_left
           ·
            simp only [Act.put, List.setIfInBounds_toArray, List.set_cons_zero, List.set_cons_succ, i64_w, i32_w]
            rfl
           refine pure_ (i := 5) (N := some 44) (v := ?_) (a' := ?_) #[true, true, true, true, true, true, false, false, false, false, false, false, false, false, false] rfl rfl (any_of HT_.out (by kernel_rfl)) (fun _ _ _ h => h) (Or.inl ⟨by rfl, ?_⟩) ?_ ?_
           rotate_left
           ·
            intro w'
            go_simp
            with_reducible rfl
           rotate_left
           ·
            simp only [Act.put, List.setIfInBounds_toArray, List.set_cons_zero, List.set_cons_succ, i64_w, i32_w]
            rfl
           refine pure_ (i := 8) (N := some 47) (v := ?_) (a' := ?_) #[true, true, true, true, true, true, false, false, true, false, false, false, false, false, false] rfl rfl (any_of HT_.out (by kernel_rfl)) (fun _ _ _ h => h) (Or.inl ⟨by rfl, ?_⟩) ?_ ?_
           rotate_left
           ·
            intro w'
            go_simp
            with_reducible rfl
           rotate_left
           ·
            simp only [Act.put, List.setIfInBounds_toArray, List.set_cons_zero, List.set_cons_succ, i64_w, i32_w]
            rfl
           refine take_ (i := 6) (N := some 45) (v := ?_) (a' := ?_) #[true, true, true, true, true, true, true, false, true, false, false, false, false, false, false] rfl rfl (take_ofW HT_.out HW_.out (by kernel_rfl)) (fun _ _ _ h => h) (Or.inl ⟨by rfl, ?_⟩) hHeld ?_ ?_
           rotate_left
           ·
            rintro w' ⟨s0, s1, s2, s3, s4⟩
            go_simp
            with_reducible rfl
           rotate_left
           ·
            simp only [Act.put, List.setIfInBounds_toArray, List.set_cons_zero, List.set_cons_succ, i64_w, i32_w]
            rfl
           refine pure_ (i := 7) (N := some 46) (v := ?_) (a' := ?_) #[true, true, true, true, true, true, true, true, true, false, false, false, false, false, false] rfl rfl (any_of HT_.out (by kernel_rfl)) (fun _ _ _ h => h) (Or.inl ⟨by rfl, ?_⟩) ?_ ?_
           rotate_left
           ·
            intro w'
            go_simp
            with_reducible rfl
           rotate_left
           ·
            simp only [Act.put, List.setIfInBounds_toArray, List.set_cons_zero, List.set_cons_succ, i64_w, i32_w]
            rfl
           refine take_ (i := 9) (N := some 48) (v := ?_) (a' := ?_) #[true, true, true, true, true, true, true, true, true, true, false, false, false, false, false] rfl rfl (take_ofW HT_.out HW_.out (by kernel_rfl)) (fun _ _ _ h => h) (Or.inl ⟨by rfl, ?_⟩) hHeld ?_ ?_
           rotate_left
           ·
            rintro w' ⟨s0, s1, s2, s3, s4⟩
            go_simp
            with_reducible rfl
           rotate_left
           ·
            simp only [Act.put, List.setIfInBounds_toArray, List.set_cons_zero, List.set_cons_succ, i64_w, i32_w]
            rfl
           refine pure_ (i := 10) (N := some 49) (v := ?_) (a' := ?_) #[true, true, true, true, true, true, true, true, true, true, true, false, false, false, false] rfl rfl (any_of HT_.out (by kernel_rfl)) (fun _ _ _ h => h) (Or.inl ⟨by rfl, ?_⟩) ?_ ?_
           rotate_left
           ·
            intro w'
            go_simp
            with_reducible rfl
           rotate_left
           ·
            simp only [Act.put, List.setIfInBounds_toArray, List.set_cons_zero, List.set_cons_succ, i64_w, i32_w]
            rfl
           refine take_ (i := 11) (N := some 50) (v := ?_) (a' := ?_) #[true, true, true, true, true, true, true, true, true, true, true, true, false, false, false] rfl rfl (take_ofW HT_.out HW_.out (by kernel_rfl)) (fun _ _ _ h => h) (Or.inl ⟨by rfl, ?_⟩) hHeld ?_ ?_
           rotate_left
           ·
            rintro w' ⟨s0, s1, s2, s3, s4⟩
            go_simp
            with_reducible rfl
           rotate_left
           ·
            simp only [Act.put, List.setIfInBounds_toArray, List.set_cons_zero, List.set_cons_succ, i64_w, i32_w]
            rfl
           refine pure_ (i := 12) (N := some 51) (v := ?_) (a' := ?_) #[true, true, true, true, true, true, true, true, true, true, true, true, true, false, false] rfl rfl (any_of HT_.out (by kernel_rfl)) (fun _ _ _ h => h) (Or.inl ⟨by rfl, ?_⟩) ?_ ?_
           rotate_left
           ·
            intro w'
            go_simp
            with_reducible rfl
           rotate_left
           ·
            simp only [Act.put, List.setIfInBounds_toArray, List.set_cons_zero, List.set_cons_succ, i64_w, i32_w]
            rfl
           refine pure_ (i := 13) (N := some 52) (v := ?_) (a' := ?_) #[true, true, true, true, true, true, true, true, true, true, true, true, true, true, false] rfl rfl (any_of HT_.out (by kernel_rfl)) (fun _ _ _ h => h) (Or.inl ⟨by rfl, ?_⟩) ?_ ?_
           rotate_left
           ·
            intro w'
            go_simp
            with_reducible rfl
           rotate_left
           ·
            simp only [Act.put, List.setIfInBounds_toArray, List.set_cons_zero, List.set_cons_succ, i64_w, i32_w]
            rfl
           refine pure_ (i := 14) (N := some 38) (v := ?_) (a' := ?_) #[true, true, true, true, true, true, true, true, true, true, true, true, true, true, true] rfl rfl (any_of HT_.out (by kernel_rfl)) (fun _ _ _ h => h) (Or.inl ⟨by rfl, ?_⟩) ?_ ?_
           rotate_left
           ·
            intro w'
            go_simp
            with_reducible rfl
           rotate_left
           ·
            simp only [Act.put, List.setIfInBounds_toArray, List.set_cons_zero, List.set_cons_succ, i64_w, i32_w]
            rfl
           refine done_ (done_of HT_.out (by kernel_rfl)) ?_
           have hnb65 := NB171_168.out
           have hnc65 := NB168_171.out
           have hnb66 := NB171_169.out
           have hnc66 := NB169_171.out
           have hnb67 := NB171_170.out
           have hnc67 := NB170_171.out
           have hcz68_0 : w64.cell? ⟨gb171, 0, none⟩ = some (.slice none 0 0) := (blk_cell BK171.out 0).trans rfl
           have hcz68_1 : w64.cell? ⟨gb171, 1, none⟩ = some (.slice none 0 0) := (blk_cell BK171.out 1).trans rfl
           have hfz68_0 := blk_frozen BK171.out 0
           have hfz68_1 := blk_frozen BK171.out 1
           have hnb69 := NB170_168.out
           have hnc69 := NB168_170.out
           have hnb70 := NB170_169.out
           have hnc70 := NB169_170.out
           have hcz71_0 : w64.cell? ⟨gb170, 0, none⟩ = some (.slice none 0 0) := (blk_cell BK170.out 0).trans rfl
           have hcz71_1 : w64.cell? ⟨gb170, 1, none⟩ = some (.slice none 0 0) := (blk_cell BK170.out 1).trans rfl
           have hfz71_0 := blk_frozen BK170.out 0
           have hfz71_1 := blk_frozen BK170.out 1
           try go_wp2
           refine bodyPost_ret (results_ct rfl _ _ gb170 26 #[.slice none 0 0, .slice none 0 0] (0, 0) _ rfl (by (with_reducible repeat (first | refine blk_drewN ?_ _ | refine blk_drew ?_ | refine blk_alloc ?_ _)); refine blk_put (cs := #[.slice none 0 0, .slice none 0 0]) ?_ 1 _ rfl; (with_reducible repeat (first | refine blk_drewN ?_ _ | refine blk_drew ?_ | refine blk_alloc ?_ _)); refine blk_put (cs := #[.slice none 0 0, .slice none 0 0]) ?_ 0 _ rfl; (with_reducible repeat (first | refine blk_drewN ?_ _ | refine blk_drew ?_ | refine blk_alloc ?_ _)); exact BK170.out) Try.underlying26 rfl (by kernel_rfl)) rfl ?_
           exact ⟨_, _, by first | rfl | (simp [errW_none, errW_some] <;> rfl) | (simp [*, errW_none, errW_some] <;> rfl), by first | exact Kd.R_nil _ _ _ _ _ | exact Kd.N_nil _ _ _ _ _ | exact Kd.V_nil _ _ _ _ _ | exact Kd.Q_nil _ _ _ _ _ | exact Kd.S_nil _ _ _ _ _, by first | exact Kd.R_nil _ _ _ _ _ | exact Kd.N_nil _ _ _ _ _ | exact Kd.V_nil _ _ _ _ _ | exact Kd.Q_nil _ _ _ _ _ | exact Kd.S_nil _ _ _ _ _, by repeat (first | (with_reducible first | exact HB.out | apply below_alloc | apply pw_below_drewN | apply below_drew1 | refine below_set ?_ GE168.out | refine below_set ?_ GE169.out | refine below_set ?_ GE170.out | refine below_set ?_ GE171.out) | exact HB.out)⟩
         ·
          rw [if_neg c61] at H
          exact absurd H (by simp)
 case rest =>
  clear HC3
  try clear c1
  try clear p1
  try clear q1
  try clear hx1
  try clear qi1
  try clear c2
  try clear p2
  try clear c3
  try clear c4
  try clear c5
  try clear c6
  try clear c7
  try clear c8
  try clear c9
  try clear c10
  try clear c14
  try clear c16
  try clear c17
  try clear p17
  try clear q17
  try clear hx17
  try clear qi17
  try clear c18
  try clear c21
  try clear c22
  try clear c25
  try clear c26
  try clear c27
  try clear c30
  try clear c31
  try clear c32
  try clear c33
  try clear c34
  try clear c35
  try clear c36
  try clear c39
  try clear c39b0
  try clear c39b1
  try clear c40
  try clear c41
  try clear c42
  try clear c43
  try clear c44
  try clear c45
  try clear c46
  try clear c48
  try clear c49
  try clear c51
  try clear c52
  try clear c53
  try clear c54
  try clear c56
  try clear c57
  try clear c59
  try clear c59b0
  try clear c59b1
  try clear c61
  try clear c61b0
  try clear c61b1
  try clear c62
  try clear c62b0
  try clear c62b1
  try clear c65
  try clear c66
  try clear c67
  try clear c69
  try clear c70
  try clear hcz11_0
  try clear hcz11_1
  try clear hcz19_0
  try clear hcz19_1
  try clear hcz23_0
  try clear hcz23_1
  try clear hcz28_0
  try clear hcz28_1
  try clear hcz34_0
  try clear hcz34_1
  try clear hcz37_0
  try clear hcz37_1
  try clear hcz43_0
  try clear hcz43_1
  try clear hcz47_0
  try clear hcz47_1
  try clear hcz50_0
  try clear hcz50_1
  try clear hcz55_0
  try clear hcz55_1
  try clear hcz58_0
  try clear hcz58_1
  try clear hcz68_0
  try clear hcz68_1
  try clear hcz71_0
  try clear hcz71_1
  try clear hfz11_0
  try clear hfz11_1
  try clear hfz19_0
  try clear hfz19_1
  try clear hfz23_0
  try clear hfz23_1
  try clear hfz28_0
  try clear hfz28_1
  try clear hfz34_0
  try clear hfz34_1
  try clear hfz37_0
  try clear hfz37_1
  try clear hfz43_0
  try clear hfz43_1
  try clear hfz47_0
  try clear hfz47_1
  try clear hfz50_0
  try clear hfz50_1
  try clear hfz55_0
  try clear hfz55_1
  try clear hfz58_0
  try clear hfz58_1
  try clear hfz68_0
  try clear hfz68_1
  try clear hfz71_0
  try clear hfz71_1
  try clear hx174_0
  try clear p174
  try clear p2
  try clear q174
  obtain ⟨kq, HA, HJ2, BK168, BK169, BK170, BK171, HB⟩ := hcut
  cases kq with
  | zero => exact absurd HA.out (by simp [spec_Copy.j2])
  | succ kj2 =>
   have H := HA.out
   clear HA
   simp only [spec_Copy.j2] at H
   have H' := Aside0.mk H
   clear H
   go_wp2
   go_loopg [8] kj2 (fun kq v8 w' => ∃ (x8_2 : Int), v8 = .int .i64 x8_2 ∧ Aside0 (spec_Copy.l0 kq 0 x8_2 l0_0 l0_1 l1_0 l1_1 = some (r1, r2, r3)) ∧ Aside0 (kq ≤ kj2) ∧ Aside0 (w'.heap[gb168]? = some (.cells #[(.slice A0_0 l0_0.length c0_0), (.slice A0_1 l0_1.length c0_1)] 26 (0, 0))) ∧ Aside0 (w'.heap[gb169]? = some (.cells #[(.slice A1_0 l1_0.length c1_0), (.slice A1_1 l1_1.length c1_1)] 26 (0, 0))) ∧ Aside0 (w'.heap[gb170]? = some (.cells #[(.slice none 0 0), (.slice none 0 0)] 26 (0, 0))) ∧ Aside0 (w'.heap[gb171]? = some (.cells #[(.slice none 0 0), (.slice none 0 0)] 26 (0, 0))) ∧ Aside0 (Below w.heap.size w w'))
   case atStart => exact ⟨(0), (by first | rfl | (simp; done) | (simp [*]; done)), H', ⟨Nat.le_refl _⟩, ⟨by (with_reducible repeat (first | refine blk_drewN ?_ _ | refine blk_drew ?_ | refine blk_alloc ?_ _)); exact BK168.out⟩, ⟨by (with_reducible repeat (first | refine blk_drewN ?_ _ | refine blk_drew ?_ | refine blk_alloc ?_ _)); exact BK169.out⟩, ⟨by (with_reducible repeat (first | refine blk_drewN ?_ _ | refine blk_drew ?_ | refine blk_alloc ?_ _)); exact BK170.out⟩, ⟨by (with_reducible repeat (first | refine blk_drewN ?_ _ | refine blk_drew ?_ | refine blk_alloc ?_ _)); exact BK171.out⟩, ⟨by repeat (first | (with_reducible first | exact HB.out | apply below_alloc | apply pw_below_drewN | apply below_drew1 | refine below_set ?_ GE168.out | refine below_set ?_ GE169.out | refine below_set ?_ GE170.out | refine below_set ?_ GE171.out) | exact HB.out)⟩⟩
   case round =>
    clear H'
    try clear c1
    try clear p1
    try clear q1
    try clear hx1
    try clear qi1
    try clear c2
    try clear p2
    try clear c3
    try clear c4
    try clear c5
    try clear c6
    try clear c7
    try clear c8
    try clear c9
    try clear c10
    try clear c14
    try clear c16
    try clear c17
    try clear p17
    try clear q17
    try clear hx17
    try clear qi17
    try clear c18
    try clear c21
    try clear c22
    try clear c25
    try clear c26
    try clear c27
    try clear c30
    try clear c31
    try clear c32
    try clear c33
    try clear c34
    try clear c35
    try clear c36
    try clear c39
    try clear c39b0
    try clear c39b1
    try clear c40
    try clear c41
    try clear c42
    try clear c43
    try clear c44
    try clear c45
    try clear c46
    try clear c48
    try clear c49
    try clear c51
    try clear c52
    try clear c53
    try clear c54
    try clear c56
    try clear c57
    try clear c59
    try clear c59b0
    try clear c59b1
    try clear c61
    try clear c61b0
    try clear c61b1
    try clear c62
    try clear c62b0
    try clear c62b1
    try clear c65
    try clear c66
    try clear c67
    try clear c69
    try clear c70
    try clear hcz11_0
    try clear hcz11_1
    try clear hcz19_0
    try clear hcz19_1
    try clear hcz23_0
    try clear hcz23_1
    try clear hcz28_0
    try clear hcz28_1
    try clear hcz34_0
    try clear hcz34_1
    try clear hcz37_0
    try clear hcz37_1
    try clear hcz43_0
    try clear hcz43_1
    try clear hcz47_0
    try clear hcz47_1
    try clear hcz50_0
    try clear hcz50_1
    try clear hcz55_0
    try clear hcz55_1
    try clear hcz58_0
    try clear hcz58_1
    try clear hcz68_0
    try clear hcz68_1
    try clear hcz71_0
    try clear hcz71_1
    try clear hfz11_0
    try clear hfz11_1
    try clear hfz19_0
    try clear hfz19_1
    try clear hfz23_0
    try clear hfz23_1
    try clear hfz28_0
    try clear hfz28_1
    try clear hfz34_0
    try clear hfz34_1
    try clear hfz37_0
    try clear hfz37_1
    try clear hfz43_0
    try clear hfz43_1
    try clear hfz47_0
    try clear hfz47_1
    try clear hfz50_0
    try clear hfz50_1
    try clear hfz55_0
    try clear hfz55_1
    try clear hfz58_0
    try clear hfz58_1
    try clear hfz68_0
    try clear hfz68_1
    try clear hfz71_0
    try clear hfz71_1
    try clear hx174_0
    try clear p1
    try clear p17
    try clear p174
    try clear p2
    try clear q1
    try clear q17
    try clear q174
    obtain ⟨x8_2, rfl, HA, HK2, BK168, BK169, BK170, BK171, HB⟩ := hrel
    cases gk with
    | zero => exact absurd HA.out (by simp [spec_Copy.l0])
    | succ k2 =>
     have H := HA.out
     clear HA
     simp only [spec_Copy.l0] at H
     by_cases c72 : x8_2 < (l0_1.length : Int)
     ·
      rw [if_pos c72] at H
      have c72b0 : decide (x8_2 < (l0_1.length : Int)) = true := decide_eq_true c72
      clear c72
      by_cases c73 : 0 ≤ x8_2
      ·
       rw [if_pos c73] at H
       have c73b0 : decide (0 ≤ x8_2) = true := decide_eq_true c73
       clear c73
       by_cases c74 : (rd l0_1 x8_2) < 0
       ·
        rw [if_pos c74] at H
        have c74b0 : decide ((rd l0_1 x8_2) < 0) = true := decide_eq_true c74
        clear c74
        simp only [Option.some.injEq, Prod.mk.injEq] at H
        obtain ⟨rfl, rfl, rfl⟩ := H
        have hnb75 := NB168_169.out
        have hnc75 := NB169_168.out
        have hnb76 := NB168_170.out
        have hnc76 := NB170_168.out
        have hnb77 := NB168_171.out
        have hnc77 := NB171_168.out
        have hcz78_0 : wr.cell? ⟨gb168, 0, none⟩ = some (.slice A0_0 l0_0.length c0_0) := (blk_cell BK168.out 0).trans rfl
        have hcz78_1 : wr.cell? ⟨gb168, 1, none⟩ = some (.slice A0_1 l0_1.length c0_1) := (blk_cell BK168.out 1).trans rfl
        have hfz78_0 := blk_frozen BK168.out 0
        have hfz78_1 := blk_frozen BK168.out 1
        have p175 : 0 ≤ (x8_2 : Int) := of_decide_eq_true (by first | (with_reducible assumption) | assumption)
        have q175 : x8_2 < (l0_1.length : Int) := of_decide_eq_true (by first | (with_reducible assumption) | assumption)
        obtain ⟨ad175, e175, hx175_0⟩ := Kd.at_int HR0_1.out x8_2 p175 q175
        cases e175
        replace hx175_0 := (HB.out.cell (World.block_lt_of_cell? w _ hx175_0)).trans hx175_0
        replace p175 := eq_true p175
        replace q175 := eq_true q175
        have hnb79 := NB171_169.out
        have hnc79 := NB169_171.out
        have hnb80 := NB171_170.out
        have hnc80 := NB170_171.out
        have hcz81_0 : wr.cell? ⟨gb171, 0, none⟩ = some (.slice none 0 0) := (blk_cell BK171.out 0).trans rfl
        have hcz81_1 : wr.cell? ⟨gb171, 1, none⟩ = some (.slice none 0 0) := (blk_cell BK171.out 1).trans rfl
        have hfz81_0 := blk_frozen BK171.out 0
        have hfz81_1 := blk_frozen BK171.out 1
        have hnb82 := NB170_169.out
        have hnc82 := NB169_170.out
        have hcz83_0 : wr.cell? ⟨gb170, 0, none⟩ = some (.slice none 0 0) := (blk_cell BK170.out 0).trans rfl
        have hcz83_1 : wr.cell? ⟨gb170, 1, none⟩ = some (.slice none 0 0) := (blk_cell BK170.out 1).trans rfl
        have hfz83_0 := blk_frozen BK170.out 0
        have hfz83_1 := blk_frozen BK170.out 1
        go_wp2
        refine bodyPost_ret (results_ct rfl _ _ gb170 26 #[.slice none 0 0, .slice none 0 0] (0, 0) _ rfl (by (with_reducible repeat (first | refine blk_drewN ?_ _ | refine blk_drew ?_ | refine blk_alloc ?_ _)); refine blk_put (cs := #[.slice none 0 0, .slice none 0 0]) ?_ 1 _ rfl; (with_reducible repeat (first | refine blk_drewN ?_ _ | refine blk_drew ?_ | refine blk_alloc ?_ _)); refine blk_put (cs := #[.slice none 0 0, .slice none 0 0]) ?_ 0 _ rfl; (with_reducible repeat (first | refine blk_drewN ?_ _ | refine blk_drew ?_ | refine blk_alloc ?_ _)); exact BK170.out) Try.underlying26 rfl (by kernel_rfl)) rfl ?_
        exact ⟨_, _, by first | rfl | (simp [errW_none, errW_some] <;> rfl) | (simp [*, errW_none, errW_some] <;> rfl), by first | exact Kd.R_nil _ _ _ _ _ | exact Kd.N_nil _ _ _ _ _ | exact Kd.V_nil _ _ _ _ _ | exact Kd.Q_nil _ _ _ _ _ | exact Kd.S_nil _ _ _ _ _, by first | exact Kd.R_nil _ _ _ _ _ | exact Kd.N_nil _ _ _ _ _ | exact Kd.V_nil _ _ _ _ _ | exact Kd.Q_nil _ _ _ _ _ | exact Kd.S_nil _ _ _ _ _, by repeat (first | (with_reducible first | exact HB.out | apply below_alloc | apply pw_below_drewN | apply below_drew1 | refine below_set ?_ GE168.out | refine below_set ?_ GE169.out | refine below_set ?_ GE170.out | refine below_set ?_ GE171.out) | exact HB.out)⟩
       ·
        rw [if_neg c74] at H
        have c74b0 : decide ((rd l0_1 x8_2) < 0) = false := decide_eq_false c74
        clear c74
        have H' := Aside0.mk H
        clear H
        have hnb84 := NB168_169.out
        have hnc84 := NB169_168.out
        have hnb85 := NB168_170.out
        have hnc85 := NB170_168.out
        have hnb86 := NB168_171.out
        have hnc86 := NB171_168.out
        have hcz87_0 : wr.cell? ⟨gb168, 0, none⟩ = some (.slice A0_0 l0_0.length c0_0) := (blk_cell BK168.out 0).trans rfl
        have hcz87_1 : wr.cell? ⟨gb168, 1, none⟩ = some (.slice A0_1 l0_1.length c0_1) := (blk_cell BK168.out 1).trans rfl
        have hfz87_0 := blk_frozen BK168.out 0
        have hfz87_1 := blk_frozen BK168.out 1
        have p175 : 0 ≤ (x8_2 : Int) := of_decide_eq_true (by first | (with_reducible assumption) | assumption)
        have q175 : x8_2 < (l0_1.length : Int) := of_decide_eq_true (by first | (with_reducible assumption) | assumption)
        obtain ⟨ad175, e175, hx175_0⟩ := Kd.at_int HR0_1.out x8_2 p175 q175
        cases e175
        replace hx175_0 := (HB.out.cell (World.block_lt_of_cell? w _ hx175_0)).trans hx175_0
        replace p175 := eq_true p175
        replace q175 := eq_true q175
        go_wp2
        go_roundg k2
        case measure => have := HJ2.out; have := HK2.out; omega
        case rel => exact ⟨(wrap64 (x8_2 + 1)), (by first | rfl | (simp; done) | (simp [*]; done)), H', ⟨by have := HJ2.out; have := HK2.out; omega⟩, ⟨by (with_reducible repeat (first | refine blk_drewN ?_ _ | refine blk_drew ?_ | refine blk_alloc ?_ _)); exact BK168.out⟩, ⟨by (with_reducible repeat (first | refine blk_drewN ?_ _ | refine blk_drew ?_ | refine blk_alloc ?_ _)); exact BK169.out⟩, ⟨by (with_reducible repeat (first | refine blk_drewN ?_ _ | refine blk_drew ?_ | refine blk_alloc ?_ _)); exact BK170.out⟩, ⟨by (with_reducible repeat (first | refine blk_drewN ?_ _ | refine blk_drew ?_ | refine blk_alloc ?_ _)); exact BK171.out⟩, ⟨by repeat (first | (with_reducible first | exact HB.out | apply below_alloc | apply pw_below_drewN | apply below_drew1 | refine below_set ?_ GE168.out | refine below_set ?_ GE169.out | refine below_set ?_ GE170.out | refine below_set ?_ GE171.out) | exact HB.out)⟩⟩
      ·
       rw [if_neg c73] at H
       exact absurd H (by simp)
     ·
      rw [if_neg c72] at H
      have c72b0 : decide (x8_2 < (l0_1.length : Int)) = false := decide_eq_false c72
      clear c72
      have H' := Aside0.mk H
      clear H
      have hnb88 := NB168_169.out
      have hnc88 := NB169_168.out
      have hnb89 := NB168_170.out
      have hnc89 := NB170_168.out
      have hnb90 := NB168_171.out
      have hnc90 := NB171_168.out
      have hcz91_0 : wr.cell? ⟨gb168, 0, none⟩ = some (.slice A0_0 l0_0.length c0_0) := (blk_cell BK168.out 0).trans rfl
      have hcz91_1 : wr.cell? ⟨gb168, 1, none⟩ = some (.slice A0_1 l0_1.length c0_1) := (blk_cell BK168.out 1).trans rfl
      have hfz91_0 := blk_frozen BK168.out 0
      have hfz91_1 := blk_frozen BK168.out 1
      go_wp2
      go_loopg [7, 9] k2 (fun kq v7 v9 w' => ∃ (x7_3 : Int) (x9_3 : Int), v7 = .int .i64 x7_3 ∧ v9 = .int .i64 x9_3 ∧ Aside0 (spec_Copy.l1 kq x7_3 x9_3 l0_0 l0_1 l1_0 l1_1 = some (r1, r2, r3)) ∧ Aside0 (kq ≤ k2) ∧ Aside0 (w'.heap[gb168]? = some (.cells #[(.slice A0_0 l0_0.length c0_0), (.slice A0_1 l0_1.length c0_1)] 26 (0, 0))) ∧ Aside0 (w'.heap[gb169]? = some (.cells #[(.slice A1_0 l1_0.length c1_0), (.slice A1_1 l1_1.length c1_1)] 26 (0, 0))) ∧ Aside0 (w'.heap[gb170]? = some (.cells #[(.slice none 0 0), (.slice none 0 0)] 26 (0, 0))) ∧ Aside0 (w'.heap[gb171]? = some (.cells #[(.slice none 0 0), (.slice none 0 0)] 26 (0, 0))) ∧ Aside0 (Below w.heap.size w w'))
      case atStart => exact ⟨(0), (0), (by first | rfl | (simp; done) | (simp [*]; done)), (by first | rfl | (simp; done) | (simp [*]; done)), H', ⟨Nat.le_refl _⟩, ⟨by (with_reducible repeat (first | refine blk_drewN ?_ _ | refine blk_drew ?_ | refine blk_alloc ?_ _)); exact BK168.out⟩, ⟨by (with_reducible repeat (first | refine blk_drewN ?_ _ | refine blk_drew ?_ | refine blk_alloc ?_ _)); exact BK169.out⟩, ⟨by (with_reducible repeat (first | refine blk_drewN ?_ _ | refine blk_drew ?_ | refine blk_alloc ?_ _)); exact BK170.out⟩, ⟨by (with_reducible repeat (first | refine blk_drewN ?_ _ | refine blk_drew ?_ | refine blk_alloc ?_ _)); exact BK171.out⟩, ⟨by repeat (first | (with_reducible first | exact HB.out | apply below_alloc | apply pw_below_drewN | apply below_drew1 | refine below_set ?_ GE168.out | refine below_set ?_ GE169.out | refine below_set ?_ GE170.out | refine below_set ?_ GE171.out) | exact HB.out)⟩⟩
      case round =>
       clear H'
       try clear c1
       try clear p1
       try clear q1
       try clear hx1
       try clear qi1
       try clear c2
       try clear p2
       try clear c3
       try clear c4
       try clear c5
       try clear c6
       try clear p6
       try clear c7
       try clear c8
       try clear c9
       try clear c10
       try clear c14
       try clear c16
       try clear c17
       try clear p17
       try clear q17
       try clear hx17
       try clear qi17
       try clear c18
       try clear c21
       try clear c22
       try clear c25
       try clear c26
       try clear c27
       try clear c30
       try clear c31
       try clear c32
       try clear c33
       try clear c34
       try clear c35
       try clear c36
       try clear c39
       try clear c39b0
       try clear c39b1
       try clear c40
       try clear c41
       try clear c42
       try clear c43
       try clear c44
       try clear c45
       try clear c46
       try clear c48
       try clear c49
       try clear c51
       try clear c52
       try clear c53
       try clear c54
       try clear c56
       try clear c57
       try clear c59
       try clear c59b0
       try clear c59b1
       try clear c61
       try clear c61b0
       try clear c61b1
       try clear c62
       try clear c62b0
       try clear c62b1
       try clear p64
       try clear c65
       try clear c66
       try clear c67
       try clear c69
       try clear c70
       try clear c72
       try clear c72b0
       try clear c73
       try clear c73b0
       try clear c74
       try clear c74b0
       try clear c75
       try clear c76
       try clear c77
       try clear c79
       try clear c80
       try clear c82
       try clear c84
       try clear c85
       try clear c86
       try clear c88
       try clear c89
       try clear c90
       try clear hcz11_0
       try clear hcz11_1
       try clear hcz19_0
       try clear hcz19_1
       try clear hcz23_0
       try clear hcz23_1
       try clear hcz28_0
       try clear hcz28_1
       try clear hcz34_0
       try clear hcz34_1
       try clear hcz37_0
       try clear hcz37_1
       try clear hcz43_0
       try clear hcz43_1
       try clear hcz47_0
       try clear hcz47_1
       try clear hcz50_0
       try clear hcz50_1
       try clear hcz55_0
       try clear hcz55_1
       try clear hcz58_0
       try clear hcz58_1
       try clear hcz68_0
       try clear hcz68_1
       try clear hcz71_0
       try clear hcz71_1
       try clear hcz78_0
       try clear hcz78_1
       try clear hcz81_0
       try clear hcz81_1
       try clear hcz83_0
       try clear hcz83_1
       try clear hcz87_0
       try clear hcz87_1
       try clear hcz91_0
       try clear hcz91_1
       try clear hfz11_0
       try clear hfz11_1
       try clear hfz19_0
       try clear hfz19_1
       try clear hfz23_0
       try clear hfz23_1
       try clear hfz28_0
       try clear hfz28_1
       try clear hfz34_0
       try clear hfz34_1
       try clear hfz37_0
       try clear hfz37_1
       try clear hfz43_0
       try clear hfz43_1
       try clear hfz47_0
       try clear hfz47_1
       try clear hfz50_0
       try clear hfz50_1
       try clear hfz55_0
       try clear hfz55_1
       try clear hfz58_0
       try clear hfz58_1
       try clear hfz68_0
       try clear hfz68_1
       try clear hfz71_0
       try clear hfz71_1
       try clear hfz78_0
       try clear hfz78_1
       try clear hfz81_0
       try clear hfz81_1
       try clear hfz83_0
       try clear hfz83_1
       try clear hfz87_0
       try clear hfz87_1
       try clear hfz91_0
       try clear hfz91_1
       try clear hx174_0
       try clear hx175_0
       try clear p1
       try clear p17
       try clear p174
       try clear p175
       try clear p2
       try clear q1
       try clear q17
       try clear q174
       try clear q175
       obtain ⟨x7_3, x9_3, rfl, rfl, HA, HK3, BK168, BK169, BK170, BK171, HB⟩ := hrel
       cases gk with
       | zero => exact absurd HA.out (by simp [spec_Copy.l1])
       | succ k3 =>
        have H := HA.out
        clear HA
        simp only [spec_Copy.l1] at H
        by_cases c92 : 0 < (l1_0.length : Int)
        ·
         rw [if_pos c92] at H
         have c92b0 : decide (0 < (l1_0.length : Int)) = true := decide_eq_true c92
         have c92b1 : decide (0 < l1_0.length) = true := decide_eq_true (by omega)
         clear c92
         by_cases c93 : x9_3 < (rd l1_0 0)
         ·
          rw [if_pos c93] at H
          have c93b0 : decide (x9_3 < (rd l1_0 0)) = true := decide_eq_true c93
          clear c93
          by_cases c94 : (l0_1.length : Int) = 0
          ·
           rw [if_pos c94] at H
           exact absurd H (by simp)
          ·
           rw [if_neg c94] at H
           have c94b0 : ((l0_1.length : Int) == 0) = false := beq_eq_false_iff_ne.mpr c94
           have c94b1 : ((l0_1.length : Int) != 0) = true := bne_iff_ne.mpr c94
           have c94b2 : ¬ (l0_1 = []) := fun h_ => c94 (by rw [h_]; rfl)
           obtain ⟨ji95, hji95⟩ : ∃ j_ : Int, (Int.tmod x9_3 (l0_1.length : Int)) = j_ := ⟨_, rfl⟩
           replace H : (if 0 ≤ (ji95) then (if (ji95) < (l0_1.length : Int) then (spec_Copy.l1 k3 (wrap64 (x7_3 + (rd l0_1 (ji95)))) (wrap64 (x9_3 + 1)) l0_0 l0_1 l1_0 l1_1) else (none)) else (none)) = some (r1, r2, r3) := by first | (rw [hji95] at H; exact H) | (simp only [hji95] at H ⊢; exact H)
           by_cases c96 : 0 ≤ (ji95)
           ·
            rw [if_pos c96] at H
            have c96b0 : decide (0 ≤ (ji95)) = true := decide_eq_true c96
            clear c96
            by_cases c97 : (ji95) < (l0_1.length : Int)
            ·
             rw [if_pos c97] at H
             have c97b0 : decide ((ji95) < (l0_1.length : Int)) = true := decide_eq_true c97
             clear c97
             have H' := Aside0.mk H
             clear H
             have hnb98 := NB169_168.out
             have hnc98 := NB168_169.out
             have hnb99 := NB169_170.out
             have hnc99 := NB170_169.out
             have hnb100 := NB169_171.out
             have hnc100 := NB171_169.out
             have hcz101_0 : wr.cell? ⟨gb169, 0, none⟩ = some (.slice A1_0 l1_0.length c1_0) := (blk_cell BK169.out 0).trans rfl
             have hcz101_1 : wr.cell? ⟨gb169, 1, none⟩ = some (.slice A1_1 l1_1.length c1_1) := (blk_cell BK169.out 1).trans rfl
             have hfz101_0 := blk_frozen BK169.out 0
             have hfz101_1 := blk_frozen BK169.out 1
             have p176 : 0 ≤ (0 : Int) := (by omega)
             have q176 : 0 < (l1_0.length : Int) := of_decide_eq_true (by first | (with_reducible assumption) | assumption)
             obtain ⟨ad176, e176, hx176_0⟩ := Kd.at_int HR1_0.out 0 p176 q176
             cases e176
             have qi176 : (0 < l1_0.length) = True := eq_true (by omega)
             (try rw [show ((0 : Int)).toNat = 0 from rfl] at hx176_0)
             (try rw [Addr.add_zero'] at hx176_0)
             replace hx176_0 := (HB.out.cell (World.block_lt_of_cell? w _ hx176_0)).trans hx176_0
             replace p176 := eq_true p176
             replace q176 := eq_true q176
             try go_wp2
             replace BK168 := Aside0.mk (blk_drew BK168.out)
             replace BK169 := Aside0.mk (blk_drew BK169.out)
             replace BK170 := Aside0.mk (blk_drew BK170.out)
             replace BK171 := Aside0.mk (blk_drew BK171.out)
             replace HB := Aside0.mk (below_drew1 HB.out)
             have p177 : 0 ≤ ((ji95) : Int) := of_decide_eq_true (by first | (with_reducible assumption) | assumption)
             have q177 : (ji95) < (l0_1.length : Int) := of_decide_eq_true (by first | (with_reducible assumption) | assumption)
             obtain ⟨ad177, e177, hx177_0⟩ := Kd.at_int HR0_1.out (ji95) p177 q177
             have hw177_0 := hx177_0
             cases e177
             replace hx177_0 := (HB.out.cell (World.block_lt_of_cell? w _ hx177_0)).trans hx177_0
             replace p177 := eq_true p177
             replace q177 := eq_true q177
             refine start_ (n := 12) (S := fun w' => w'.cell? ⟨gb168, 0, none⟩ = some (.slice A0_0 l0_0.length c0_0) ∧ w'.cell? ⟨gb168, 1, none⟩ = some (.slice (some ad177) l0_1.length c0_1) ∧ w'.cell? (ad177.add ((ji95)).toNat) = some (.int .i64 (rd l0_1 (ji95)))) (ds := []) #[false, false, false, false, false, false, false, false, false, false, false, false] (by kernel_rfl) rfl rfl ⟨(blk_cell BK168.out 0).trans rfl, (blk_cell BK168.out 1).trans rfl, ((HB.out.cell (World.block_lt_of_cell? w _ hw177_0)).trans hw177_0)⟩ (fun hHeld => ?_); refine with_tabW spec_Copy.tab17 spec_Copy.bits17 (fun HT_ HW_ => ?_)
             generalize wr.drew = w102 at BK168 BK169 BK170 BK171 HB hx177_0 hHeld ⊢
             refine pure_ (i := 0) (N := some 76) (v := ?_) (a' := ?_) #[true, false, false, false, false, false, false, false, false, false, false, false] rfl rfl (any_of HT_.out (by kernel_rfl)) (fun _ _ _ h => h) (Or.inl ⟨by rfl, ?_⟩) ?_ ?_
             rotate_left
             ·
              intro w'
              go_simp
              with_reducible rfl
             rotate_left
             ·
              simp only [Act.put, List.setIfInBounds_toArray, List.set_cons_zero, List.set_cons_succ, i64_w, i32_w]
              rfl
             refine pure_ (i := 1) (N := some 77) (v := ?_) (a' := ?_) #[true, true, false, false, false, false, false, false, false, false, false, false] rfl rfl (any_of HT_.out (by kernel_rfl)) (fun _ _ _ h => h) (Or.inl ⟨by rfl, ?_⟩) ?_ ?_
             rotate_left
             ·
              intro w'
              go_simp
              with_reducible rfl
             rotate_left
             ·
              simp only [Act.put, List.setIfInBounds_toArray, List.set_cons_zero, List.set_cons_succ, i64_w, i32_w]
              rfl
             refine pure_ (i := 3) (N := some 79) (v := ?_) (a' := ?_) #[true, true, false, true, false, false, false, false, false, false, false, false] rfl rfl (any_of HT_.out (by kernel_rfl)) (fun _ _ _ h => h) (Or.inl ⟨by rfl, ?_⟩) ?_ ?_
             rotate_left
             ·
              intro w'
              go_simp
              with_reducible rfl
             rotate_left
             ·
              simp only [Act.put, List.setIfInBounds_toArray, List.set_cons_zero, List.set_cons_succ, i64_w, i32_w]
              rfl
             refine pure_ (i := 4) (N := some 80) (v := ?_) (a' := ?_) #[true, true, false, true, true, false, false, false, false, false, false, false] rfl rfl (any_of HT_.out (by kernel_rfl)) (fun _ _ _ h => h) (Or.inl ⟨by rfl, ?_⟩) ?_ ?_
             rotate_left
             ·
              intro w'
              go_simp
              with_reducible rfl
             rotate_left
             ·
              simp only [Act.put, List.setIfInBounds_toArray, List.set_cons_zero, List.set_cons_succ, i64_w, i32_w]
              rfl
             refine take_ (i := 2) (N := some 78) (v := ?_) (a' := ?_) #[true, true, true, true, true, false, false, false, false, false, false, false] rfl rfl (take_ofW HT_.out HW_.out (by kernel_rfl)) (fun _ _ _ h => h) (Or.inl ⟨by rfl, ?_⟩) hHeld ?_ ?_
             rotate_left
             ·
              rintro w' ⟨s0, s1, s2⟩
              go_simp
              with_reducible rfl
             rotate_left
             ·
              simp only [Act.put, List.setIfInBounds_toArray, List.set_cons_zero, List.set_cons_succ, i64_w, i32_w]
              rfl
             refine take_ (i := 5) (N := some 81) (v := ?_) (a' := ?_) #[true, true, true, true, true, true, false, false, false, false, false, false] rfl rfl (take_ofW HT_.out HW_.out (by kernel_rfl)) (fun _ _ _ h => h) (Or.inl ⟨by rfl, ?_⟩) hHeld ?_ ?_
             rotate_left
             ·
              rintro w' ⟨s0, s1, s2⟩
              go_simp
              with_reducible rfl
             rotate_left
             ·
              simp only [Act.put, List.setIfInBounds_toArray, List.set_cons_zero, List.set_cons_succ, i64_w, i32_w]
              rfl
             refine pure_ (i := 6) (N := some 82) (v := ?_) (a' := ?_) #[true, true, true, true, true, true, true, false, false, false, false, false] rfl rfl (any_of HT_.out (by kernel_rfl)) (fun _ _ _ h => h) (Or.inl ⟨by rfl, ?_⟩) ?_ ?_
             rotate_left
             ·
              intro w'
              go_simp
              with_reducible rfl
             rotate_left
             ·
              simp only [Act.put, List.setIfInBounds_toArray, List.set_cons_zero, List.set_cons_succ, i64_w, i32_w]
              rfl
             refine pure_ (i := 7) (N := some 83) (v := ?_) (a' := ?_) #[true, true, true, true, true, true, true, true, false, false, false, false] rfl rfl (any_of HT_.out (by kernel_rfl)) (fun _ _ _ h => h) (Or.inl ⟨by rfl, ?_⟩) ?_ ?_
             rotate_left
             ·
              intro w'
              go_simp
              with_reducible rfl
             rotate_left
             ·
              simp only [Act.put, List.setIfInBounds_toArray, List.set_cons_zero, List.set_cons_succ, i64_w, i32_w]
              rfl
             refine pure_ (i := 8) (N := some 84) (v := ?_) (a' := ?_) #[true, true, true, true, true, true, true, true, true, false, false, false] rfl rfl (any_of HT_.out (by kernel_rfl)) (fun _ _ _ h => h) (Or.inl ⟨by rfl, ?_⟩) ?_ ?_
             rotate_left
             ·
              intro w'
              go_simp
              with_reducible rfl
             rotate_left
             ·
              simp only [Act.put, List.setIfInBounds_toArray, List.set_cons_zero, List.set_cons_succ, i64_w, i32_w]
              rfl
             refine take_ (i := 9) (N := some 85) (v := ?_) (a' := ?_) #[true, true, true, true, true, true, true, true, true, true, false, false] rfl rfl (take_ofW HT_.out HW_.out (by kernel_rfl)) (fun _ _ _ h => h) (Or.inl ⟨by rfl, ?_⟩) hHeld ?_ ?_
             rotate_left
             ·
              rintro w' ⟨s0, s1, s2⟩
              go_simp
              with_reducible rfl
             rotate_left
             ·
              simp only [Act.put, List.setIfInBounds_toArray, List.set_cons_zero, List.set_cons_succ, i64_w, i32_w]
              rfl
             refine pure_ (i := 10) (N := some 86) (v := ?_) (a' := ?_) #[true, true, true, true, true, true, true, true, true, true, true, false] rfl rfl (any_of HT_.out (by kernel_rfl)) (fun _ _ _ h => h) (Or.inl ⟨by rfl, ?_⟩) ?_ ?_
             rotate_left
             ·
              intro w'
              go_simp
              with_reducible rfl
             rotate_left
             ·
              simp only [Act.put, List.setIfInBounds_toArray, List.set_cons_zero, List.set_cons_succ, i64_w, i32_w]
              rfl
             refine pure_ (i := 11) (N := some 7) (v := ?_) (a' := ?_) #[true, true, true, true, true, true, true, true, true, true, true, true] rfl rfl (any_of HT_.out (by kernel_rfl)) (fun _ _ _ h => h) (Or.inl ⟨by rfl, ?_⟩) ?_ ?_
             rotate_left
             ·
              intro w'
              go_simp
              with_reducible rfl
             rotate_left
             ·
              simp only [Act.put, List.setIfInBounds_toArray, List.set_cons_zero, List.set_cons_succ, i64_w, i32_w]
              rfl
             refine done_ (done_of HT_.out (by kernel_rfl)) ?_
             try go_wp2
             go_roundg k3
             case measure => have := HJ2.out; have := HK2.out; have := HK3.out; omega
             case rel => exact ⟨(wrap64 (x7_3 + (rd l0_1 (ji95)))), (wrap64 (x9_3 + 1)), (by first | rfl | (simp; done) | (simp only [← hji95] <;> (first | rfl | simp)) | (simp [*]; done)), (by first | rfl | (simp; done) | (simp [*]; done)), H', ⟨by have := HJ2.out; have := HK2.out; have := HK3.out; omega⟩, ⟨by (with_reducible repeat (first | refine blk_drewN ?_ _ | refine blk_drew ?_ | refine blk_alloc ?_ _)); exact BK168.out⟩, ⟨by (with_reducible repeat (first | refine blk_drewN ?_ _ | refine blk_drew ?_ | refine blk_alloc ?_ _)); exact BK169.out⟩, ⟨by (with_reducible repeat (first | refine blk_drewN ?_ _ | refine blk_drew ?_ | refine blk_alloc ?_ _)); exact BK170.out⟩, ⟨by (with_reducible repeat (first | refine blk_drewN ?_ _ | refine blk_drew ?_ | refine blk_alloc ?_ _)); exact BK171.out⟩, ⟨by repeat (first | (with_reducible first | exact HB.out | apply below_alloc | apply pw_below_drewN | apply below_drew1 | refine below_set ?_ GE168.out | refine below_set ?_ GE169.out | refine below_set ?_ GE170.out | refine below_set ?_ GE171.out) | exact HB.out)⟩⟩
            ·
             rw [if_neg c97] at H
             exact absurd H (by simp)
           ·
            rw [if_neg c96] at H
            exact absurd H (by simp)
         ·
          rw [if_neg c93] at H
          have c93b0 : decide (x9_3 < (rd l1_0 0)) = false := decide_eq_false c93
          clear c93
          replace H := Option.bind_eq_some_iff.mp H
          obtain ⟨t178, A1030, H⟩ := H
          replace H : ((some (([t178] : List Int) : List Int)).bind fun y179 => (if 1 ≤ (l1_0.length : Int) then (if y179.length + (l1_0.drop 1).length < 17592186044416 then ((some (y179 ++ (l1_0.drop 1) : List Int)).bind fun y183 => ((spec_ShapeOk.f k3 y183).bind fun t186 => (if t186 = true then ((spec_l3Rows.f k3 l1_0 l1_1).bind fun t187 => (spec_Copy.l2 k3 t187 0 l0_0 l0_1 y183 ([] : List Int))) else (some (([] : List Int), ([] : List Int), 6))))) else (none)) else (none))) = some (r1, r2, r3) := H
          have A103 := Aside0.mk A1030
          clear A1030
          obtain ⟨y179, hy179⟩ : ∃ y_ : List Int, y_ = (([t178] : List Int)) := ⟨_, rfl⟩
          replace H : (if 1 ≤ (l1_0.length : Int) then (if y179.length + (l1_0.drop 1).length < 17592186044416 then ((some (y179 ++ (l1_0.drop 1) : List Int)).bind fun y183 => ((spec_ShapeOk.f k3 y183).bind fun t186 => (if t186 = true then ((spec_l3Rows.f k3 l1_0 l1_1).bind fun t187 => (spec_Copy.l2 k3 t187 0 l0_0 l0_1 y183 ([] : List Int))) else (some (([] : List Int), ([] : List Int), 6))))) else (none)) else (none)) = some (r1, r2, r3) := by first | (rw [hy179]; with_reducible exact H) | (have H2_ := (Option.bind_some _ _).symm.trans H; rw [hy179]; with_reducible exact H2_) | (have H2_ := (Option.bind_some _ _).symm.trans H; with_reducible exact H2_) | with_reducible exact H | (rw [hy179]; exact H) | exact H
          have Ny179 := Aside0.mk hy179
          clear hy179
          by_cases c104 : 1 ≤ (l1_0.length : Int)
          ·
           rw [if_pos c104] at H
           have c104b0 := eq_true c104
           have c104b1 : decide (1 ≤ (l1_0.length : Int)) = true := decide_eq_true c104
           clear c104
           by_cases c105 : y179.length + (l1_0.drop 1).length < 17592186044416
           ·
            rw [if_pos c105] at H
            have LMc105 := Aside0.mk c105
            clear c105
            obtain ⟨y183, hy183⟩ : ∃ y_ : List Int, y_ = (y179 ++ (l1_0.drop 1)) := ⟨_, rfl⟩
            replace H : ((spec_ShapeOk.f k3 y183).bind fun t186 => (if t186 = true then ((spec_l3Rows.f k3 l1_0 l1_1).bind fun t187 => (spec_Copy.l2 k3 t187 0 l0_0 l0_1 y183 ([] : List Int))) else (some (([] : List Int), ([] : List Int), 6)))) = some (r1, r2, r3) := by first | (rw [hy183]; with_reducible exact H) | (have H2_ := (Option.bind_some _ _).symm.trans H; rw [hy183]; with_reducible exact H2_) | (have H2_ := (Option.bind_some _ _).symm.trans H; with_reducible exact H2_) | with_reducible exact H | (rw [hy183]; exact H) | exact H
            have Ny183 := Aside0.mk hy183
            clear hy183
            replace H := Option.bind_eq_some_iff.mp H
            obtain ⟨t186, A1060, H⟩ := H
            replace H : (if t186 = true then ((spec_l3Rows.f k3 l1_0 l1_1).bind fun t187 => (spec_Copy.l2 k3 t187 0 l0_0 l0_1 y183 ([] : List Int))) else (some (([] : List Int), ([] : List Int), 6))) = some (r1, r2, r3) := H
            have A106 := Aside0.mk A1060
            clear A1060
            by_cases c107 : t186 = true
            ·
             subst c107
             have H1 : ((spec_l3Rows.f k3 l1_0 l1_1).bind fun t187 => (spec_Copy.l2 k3 t187 0 l0_0 l0_1 y183 ([] : List Int))) = some (r1, r2, r3) := by rw [if_pos rfl] at H; exact H
             clear H
             have H := H1
             clear H1
             replace H := Option.bind_eq_some_iff.mp H
             obtain ⟨t187, A1080, H⟩ := H
             replace H : (spec_Copy.l2 k3 t187 0 l0_0 l0_1 y183 ([] : List Int)) = some (r1, r2, r3) := H
             have A108 := Aside0.mk A1080
             clear A1080
             have H' := Aside0.mk H
             clear H
             have hnb109 := NB169_168.out
             have hnc109 := NB168_169.out
             have hnb110 := NB169_170.out
             have hnc110 := NB170_169.out
             have hnb111 := NB169_171.out
             have hnc111 := NB171_169.out
             have hcz112_0 : wr.cell? ⟨gb169, 0, none⟩ = some (.slice A1_0 l1_0.length c1_0) := (blk_cell BK169.out 0).trans rfl
             have hcz112_1 : wr.cell? ⟨gb169, 1, none⟩ = some (.slice A1_1 l1_1.length c1_1) := (blk_cell BK169.out 1).trans rfl
             have hfz112_0 := blk_frozen BK169.out 0
             have hfz112_1 := blk_frozen BK169.out 1
             have p176 : 0 ≤ (0 : Int) := (by omega)
             have q176 : 0 < (l1_0.length : Int) := of_decide_eq_true (by first | (with_reducible assumption) | assumption)
             obtain ⟨ad176, e176, hx176_0⟩ := Kd.at_int HR1_0.out 0 p176 q176
             cases e176
             have qi176 : (0 < l1_0.length) = True := eq_true (by omega)
             (try rw [show ((0 : Int)).toNat = 0 from rfl] at hx176_0)
             (try rw [Addr.add_zero'] at hx176_0)
             replace hx176_0 := (HB.out.cell (World.block_lt_of_cell? w _ hx176_0)).trans hx176_0
             replace p176 := eq_true p176
             replace q176 := eq_true q176
             try go_wp2
             replace BK168 := Aside0.mk (blk_drew BK168.out)
             replace BK169 := Aside0.mk (blk_drew BK169.out)
             replace BK170 := Aside0.mk (blk_drew BK170.out)
             replace BK171 := Aside0.mk (blk_drew BK171.out)
             replace HB := Aside0.mk (below_drew1 HB.out)
             obtain ⟨i0114, hi0114, _, hsz114, _⟩ := info_parts info3
             obtain ⟨A114, hcut114, hA114, hC114⟩ := print_drop_of (P := Try.prog) (Value.int .i64) 0 22 3 .i64 Try.underlying22 hi0114 hsz114 (some ad176) c1_0 l1_0 1 (by omega) (of_decide_eq_true (by first | (with_reducible assumption) | assumption)) HC1_0.out
             have HR182 := Aside0.mk (Kd.C_of_reads (h1 := fun _ => rfl) (hA114 _ (Kd.reads_of_C HR1_0.out)))
             have HC182 := Aside0.mk hC114
             clear hA114 hC114 hi0114 hsz114
             refine start_ (n := 8) (S := fun w' => w'.cell? ⟨gb169, 0, none⟩ = some (.slice (some ad176) l1_0.length c1_0) ∧ w'.cell? ⟨gb169, 1, none⟩ = some (.slice A1_1 l1_1.length c1_1)) (ds := []) #[false, false, false, false, false, false, false, false] (by kernel_rfl) rfl rfl ⟨(blk_cell BK169.out 0).trans rfl, (blk_cell BK169.out 1).trans rfl⟩ (fun hHeld => ?_); refine with_tabW spec_Copy.tab18 spec_Copy.bits18 (fun HT_ HW_ => ?_)
             generalize wr.drew = w113 at BK168 BK169 BK170 BK171 HB HR182 hHeld ⊢
             refine pure_ (i := 0) (N := some 87) (v := ?_) (a' := ?_) #[true, false, false, false, false, false, false, false] rfl rfl (any_of HT_.out (by kernel_rfl)) (fun _ _ _ h => h) (Or.inl ⟨by rfl, ?_⟩) ?_ ?_
             rotate_left
             ·
              intro w'
              go_simp
              with_reducible rfl
             rotate_left
             ·
              simp only [Act.put, List.setIfInBounds_toArray, List.set_cons_zero, List.set_cons_succ, i64_w, i32_w]
              rfl
             refine pure_ (i := 3) (N := some 90) (v := ?_) (a' := ?_) #[true, false, false, true, false, false, false, false] rfl rfl (any_of HT_.out (by kernel_rfl)) (fun _ _ _ h => h) (Or.inl ⟨by rfl, ?_⟩) ?_ ?_
             rotate_left
             ·
              intro w'
              go_simp
              with_reducible rfl
             rotate_left
             ·
              simp only [Act.put, List.setIfInBounds_toArray, List.set_cons_zero, List.set_cons_succ, i64_w, i32_w]
              rfl
             refine take_ (i := 4) (N := some 91) (v := ?_) (a' := ?_) #[true, false, false, true, true, false, false, false] rfl rfl (take_ofW HT_.out HW_.out (by kernel_rfl)) (fun _ _ _ h => h) (Or.inl ⟨by rfl, ?_⟩) hHeld ?_ ?_
             rotate_left
             ·
              rintro w' ⟨s0, s1⟩
              go_simp
              with_reducible rfl
             rotate_left
             ·
              simp only [Act.put, List.setIfInBounds_toArray, List.set_cons_zero, List.set_cons_succ, i64_w, i32_w]
              rfl
             refine pure_ (i := 5) (N := some 92) (v := ?_) (a' := ?_) #[true, false, false, true, true, true, false, false] rfl rfl (any_of HT_.out (by kernel_rfl)) (fun _ _ _ h => h) (Or.inl ⟨by rfl, ?_⟩) ?_ ?_
             rotate_left
             ·
              intro w'
              go_simp
              with_reducible rfl
             rotate_left
             ·
              simp only [Act.put, List.setIfInBounds_toArray, List.set_cons_zero, List.set_cons_succ, i64_w, i32_w]
              rfl
             refine one_ (i := 1) (N := some 88) #[true, true, false, true, true, true, false, false] rfl rfl (one_of HT_.out (by kernel_rfl)) (by decide) (fun K hK => ?_)
             refine goes_ Try.func91 (by kernel_rfl) rfl #[.int .i64 x7_3, .int .i64 301] (by rfl) rfl rfl (by (try simp only [List.map_toArray, List.map_cons, List.map_nil]); first | done | rfl | (simp only [List.length_drop, List.length_take]; rfl)) ?_
             with_reducible refine (spec_l1Min.calls x7_3 301 t178 _ A103.out).mono ?_
             rintro e w' ⟨rfl, ⟨nd, rfl⟩⟩
             refine ⟨_, rfl, ?_⟩
             refine hK.out _ _ ⟨(blk_cell BK169.out 0).trans rfl, (blk_cell BK169.out 1).trans rfl⟩ (fun hHeld => ?_)
             clear hK K
             refine norm_ (a' := ?_) ?_ ?_
             rotate_left
             ·
              show Act.put _ (some 88) _ = _
              simp only [Act.put, List.setIfInBounds_toArray, List.set_cons_zero, List.set_cons_succ, i64_w, i32_w]
              rfl
             refine one_ (i := 2) (N := some 89) #[true, true, true, true, true, true, false, false] rfl rfl (one_of HT_.out (by kernel_rfl)) (by decide) (fun K hK => ?_)
             refine Kd.R_lit_step (Kd.int .i64) _ 3 ?hg (N := 89) ?hd (xs := ([t178] : List Int)) (inner := [.int .i64 t178]) (ok := fun _ => True) (okp := fun _ => True) ?hr ?hp (fun _ hk => hk) trivial (Below.refl _ _) (Nat.le_refl _) (by simp) ?_; (case hd => rfl); (case hg => rfl); (case hr => first | (go_simp; done) | (go_simp; rfl)); (case hp => exact (Reps.one (show Kd.M (Kd.int .i64) _ _ _ t178 [.int .i64 t178] from rfl) (Reps.none _ _)))
             intro v180 w115 ho116 hb hg_ hnew_
             clear hg_ hnew_
             (first | rw [← Ny179.out] at ho116 | (simp only [Int.reduceToNat] at ho116; rw [← Ny179.out] at ho116))
             have HO181 := Aside0.mk (Kd.R_lower ho116 (below_size (bS4 HB.out GE168.out GE169.out GE170.out GE171.out)))
             replace BK168 := Aside0.mk (blk_below (g := gb168) (o := .cells #[.slice A0_0 l0_0.length c0_0, .slice A0_1 l0_1.length c0_1] 26 (0, 0)) (kU BK168.out) hb)
             replace BK169 := Aside0.mk (blk_below (g := gb169) (o := .cells #[.slice (some ad176) l1_0.length c1_0, .slice A1_1 l1_1.length c1_1] 26 (0, 0)) (kU BK169.out) hb)
             replace BK170 := Aside0.mk (blk_below (g := gb170) (o := .cells #[.slice none 0 0, .slice none 0 0] 26 (0, 0)) (kU BK170.out) hb)
             replace BK171 := Aside0.mk (blk_below (g := gb171) (o := .cells #[.slice none 0 0, .slice none 0 0] 26 (0, 0)) (kU BK171.out) hb)
             replace HB := Aside0.mk (below_step (bS4 HB.out GE168.out GE169.out GE170.out GE171.out) hb)
             clear hb ho116
             refine hK.out _ _ ⟨(blk_cell BK169.out 0).trans rfl, (blk_cell BK169.out 1).trans rfl⟩ (fun hHeld => ?_)
             clear hK K
             refine norm_ (a' := ?_) ?_ ?_
             rotate_left
             ·
              show Act.put _ (some 89) _ = _
              simp only [Act.put, List.setIfInBounds_toArray, List.set_cons_zero, List.set_cons_succ, i64_w, i32_w]
              rfl
             refine one_ (i := 6) (N := some 93) #[true, true, true, true, true, true, true, false] rfl rfl (one_of HT_.out (by kernel_rfl)) (by decide) (fun K hK => ?_)
             refine Kd.R_append_rows_step (Kd.int .i64) (w0 := w) w.heap.size (by rfl) (.tmp 89) (.tmp 92) 22 3 (.int .i64 0) 8 rfl Try.underlying22 info3 rfl (by decide) (by omega) v180 y179 (l1_0.drop 1) _ _ _ (fun _ => True) (fun _ => False) rfl rfl ?aO ?aR (fun _ _ h => h) (fun _ h => h.elim) ?aF ?aB ?aS ?aL ?_
             (case aR => first | (rw [← show (l1_0.drop 1).length = (l1_0.length - 1) from List.length_drop]; exact cU (Kd.C_below HR182.out HB.out)) | (exact cU (Kd.C_below HR182.out HB.out)))
             (case aB => exact (bS4 HB.out GE168.out GE169.out GE170.out GE171.out))
             (case aF => exact (fun _ _ => trivial))
             (case aO => exact (RU HO181.out))
             (case aS => exact (below_size (bS4 HB.out GE168.out GE169.out GE170.out GE171.out)))
             (case aL => have := LMc105.out; have hlx_ := (show (l1_0.drop 1).length = (l1_0.length - 1) from List.length_drop); omega)
             intro v184 w117 ho hb hg hat
             rw [← Ny183.out] at ho
             have n0_ := Aside0.mk (blk_grown (g := gb168) (o := .cells #[.slice A0_0 l0_0.length c0_0, .slice A0_1 l0_1.length c0_1] 26 (0, 0)) (kU BK168.out) hg (Kd.R_ne HO181.out BK168.out (by decide)))
             have n1_ := Aside0.mk (blk_grown (g := gb169) (o := .cells #[.slice (some ad176) l1_0.length c1_0, .slice A1_1 l1_1.length c1_1] 26 (0, 0)) (kU BK169.out) hg (Kd.R_ne HO181.out BK169.out (by decide)))
             have n2_ := Aside0.mk (blk_grown (g := gb170) (o := .cells #[.slice none 0 0, .slice none 0 0] 26 (0, 0)) (kU BK170.out) hg (Kd.R_ne HO181.out BK170.out (by decide)))
             have n3_ := Aside0.mk (blk_grown (g := gb171) (o := .cells #[.slice none 0 0, .slice none 0 0] 26 (0, 0)) (kU BK171.out) hg (Kd.R_ne HO181.out BK171.out (by decide)))
             have n4_ := Aside0.mk (hb)
             have n5_ := Aside0.mk (ho)
             clear BK168 BK169 BK170 BK171 HB HO181
             have BK168 := n0_
             have BK169 := n1_
             have BK170 := n2_
             have BK171 := n3_
             have HB := n4_
             have HO185 := n5_
             clear n0_ n1_ n2_ n3_ n4_ n5_
             clear ho hb hg hat
             refine hK.out _ _ ⟨(blk_cell BK169.out 0).trans rfl, (blk_cell BK169.out 1).trans rfl⟩ (fun hHeld => ?_)
             clear hK K
             refine norm_ (a' := ?_) ?_ ?_
             rotate_left
             ·
              show Act.put _ (some 93) _ = _
              simp only [Act.put, List.setIfInBounds_toArray, List.set_cons_zero, List.set_cons_succ, i64_w, i32_w]
              rfl
             refine pure_ (i := 7) (N := some 10) (v := ?_) (a' := ?_) #[true, true, true, true, true, true, true, true] rfl rfl (any_of HT_.out (by kernel_rfl)) (fun _ _ _ h => h) (Or.inl ⟨by rfl, ?_⟩) ?_ ?_
             rotate_left
             ·
              intro w'
              go_simp
              with_reducible rfl
             rotate_left
             ·
              simp only [Act.put, List.setIfInBounds_toArray, List.set_cons_zero, List.set_cons_succ, i64_w, i32_w]
              rfl
             refine done_ (done_of HT_.out (by kernel_rfl)) ?_
             obtain ⟨Ao118, co118, eo118⟩ := Kd.R_slice HO185.out
             subst eo118
             try go_wp2_with (first | ((with_reducible refine gate_callee (f := 92) rfl ?_); refine goesL_ (some 95) rfl rfl Try.func92 (by kernel_rfl) rfl #[.slice Ao118 y183.length co118] rfl (by (try simp only [List.map_toArray, List.map_cons, List.map_nil]); first | done | rfl | (simp only [List.length_drop, List.length_take]; rfl)) ?_; (with_reducible refine (spec_ShapeOk.calls k3 _ _ y183 true _ ?side1 ?side2 A106.out).mono ?_); (case side1 => exact cU (Kd.R_reads' HO185.out).2.2); (case side2 => exact (Kd.R_reads' HO185.out).2.1); rintro e w' ⟨rfl, ⟨nd, rfl⟩⟩; refine ⟨_, rfl, ?_⟩; (try (rw [drewN_self w117]; generalize hq_ : World.drewN w117 _ = w117; have n0_ : Aside0 (Kd.R (Kd.int .i64) 3 w117 w.heap.size (fun _ => True) (.slice Ao118 y183.length co118) y183) := ⟨by rw [← hq_]; exact (RU HO185.out)⟩; have n1_ : Aside0 (w117.heap[gb168]? = some (.cells #[.slice A0_0 l0_0.length c0_0, .slice A0_1 l0_1.length c0_1] 26 (0, 0))) := ⟨by rw [← hq_]; exact (kU BK168.out)⟩; have n2_ : Aside0 (w117.heap[gb169]? = some (.cells #[.slice (some ad176) l1_0.length c1_0, .slice A1_1 l1_1.length c1_1] 26 (0, 0))) := ⟨by rw [← hq_]; exact (kU BK169.out)⟩; have n3_ : Aside0 (w117.heap[gb170]? = some (.cells #[.slice none 0 0, .slice none 0 0] 26 (0, 0))) := ⟨by rw [← hq_]; exact (kU BK170.out)⟩; have n4_ : Aside0 (w117.heap[gb171]? = some (.cells #[.slice none 0 0, .slice none 0 0] 26 (0, 0))) := ⟨by rw [← hq_]; exact (kU BK171.out)⟩; have n5_ : Aside0 (Below w.heap.size w w117) := ⟨by rw [← hq_]; exact (bS4 HB.out GE168.out GE169.out GE170.out GE171.out)⟩; clear HO185 BK168 BK169 BK170 BK171 HB hq_; have HO185 := n0_; have BK168 := n1_; have BK169 := n2_; have BK170 := n3_; have BK171 := n4_; have HB := n5_; clear n0_ n1_ n2_ n3_ n4_ n5_)); have hcz119_0 : w117.cell? ⟨gb169, 0, none⟩ = some (.slice (some ad176) l1_0.length c1_0) := (blk_cell BK169.out 0).trans rfl; have hcz119_1 : w117.cell? ⟨gb169, 1, none⟩ = some (.slice A1_1 l1_1.length c1_1) := (blk_cell BK169.out 1).trans rfl; have hfz119_0 := blk_frozen BK169.out 0; have hfz119_1 := blk_frozen BK169.out 1) | ((with_reducible refine gate_callee (f := 75) rfl ?_); refine goesL_ (some 99) rfl rfl Try.func75 (by kernel_rfl) rfl #[.agg #[.slice (some ad176) l1_0.length c1_0, .slice A1_1 l1_1.length c1_1]] rfl (by (try simp only [List.map_toArray, List.map_cons, List.map_nil]); first | done | rfl | (simp only [List.length_drop, List.length_take]; rfl)) ?_; (with_reducible refine (spec_l3Rows.calls k3 _ _ l1_0 _ _ l1_1 t187 _ ?side1 ?side2 ?side3 ?side4 A108.out).mono ?_); (case side1 => exact cU (Kd.C_below HR1_0.out HB.out)); (case side2 => exact HC1_0.out); (case side3 => exact cU (Kd.C_below HR1_1.out HB.out)); (case side4 => exact HC1_1.out); rintro e w120 ⟨v188, rfl, ho0, hb⟩; refine ⟨_, rfl, ?_⟩; have HO189 := Aside0.mk (Kd.S_lower (Kd.S_newB (Kd.S_newB (Kd.S_newB (Kd.S_newB (Kd.S_new' ho0 (Kd.R_lt (RU HO185.out))) (g := gb168) (o := .cells #[.slice A0_0 l0_0.length c0_0, .slice A0_1 l0_1.length c0_1] 26 (0, 0)) (kU BK168.out)) (g := gb169) (o := .cells #[.slice (some ad176) l1_0.length c1_0, .slice A1_1 l1_1.length c1_1] 26 (0, 0)) (kU BK169.out)) (g := gb170) (o := .cells #[.slice none 0 0, .slice none 0 0] 26 (0, 0)) (kU BK170.out)) (g := gb171) (o := .cells #[.slice none 0 0, .slice none 0 0] 26 (0, 0)) (kU BK171.out)) (below_size (bS4 HB.out GE168.out GE169.out GE170.out GE171.out))); replace HO185 := Aside0.mk (Kd.R_below (RU HO185.out) hb); replace BK168 := Aside0.mk (blk_below (g := gb168) (o := .cells #[.slice A0_0 l0_0.length c0_0, .slice A0_1 l0_1.length c0_1] 26 (0, 0)) (kU BK168.out) hb); replace BK169 := Aside0.mk (blk_below (g := gb169) (o := .cells #[.slice (some ad176) l1_0.length c1_0, .slice A1_1 l1_1.length c1_1] 26 (0, 0)) (kU BK169.out) hb); replace BK170 := Aside0.mk (blk_below (g := gb170) (o := .cells #[.slice none 0 0, .slice none 0 0] 26 (0, 0)) (kU BK170.out) hb); replace BK171 := Aside0.mk (blk_below (g := gb171) (o := .cells #[.slice none 0 0, .slice none 0 0] 26 (0, 0)) (kU BK171.out) hb); replace HB := Aside0.mk (below_step (bS4 HB.out GE168.out GE169.out GE170.out GE171.out) hb); (try clear hb); (try clear hb2); (try clear hk); (try clear hi); (try clear ho0)) | ((with_reducible refine gate_dst (N := 12) rfl ?_); (try (refine gate_guard (by rfl) ?_; dsimp only)); refine box_event ?hg (N := 12) ?hd (cs := #[.slice none 0 0, .slice none 0 0]) (t := 26) ?hr ?_; (case hd => rfl); (case hg => rfl); (case hr => first | (go_simp; done) | (go_simp; rfl)); intro gb190 hg w121 hbox hb; replace HO185 := Aside0.mk (Kd.R_below (RU HO185.out) hb); replace HO189 := Aside0.mk (Kd.S_below (Kd.S_elderB (SU HO189.out) gb190 (Nat.le_of_eq hg.symm)) hb); have BK190 := Aside0.mk (hbox); have GW190 := Aside0.mk ((by rw [hg]; exact (below_size (bS4 HB.out GE168.out GE169.out GE170.out GE171.out)) : w.heap.size ≤ gb190)); have GE190 := Aside0.mk ((by rw [hg]; exact (below_size (bS4 HB.out GE168.out GE169.out GE170.out GE171.out)) : w.heap.size ≤ gb190)); replace HB := Aside0.mk (below_step (bS4 HB.out GE168.out GE169.out GE170.out GE171.out) hb); have NB168_190 := Aside0.mk ((by rw [hg]; exact Nat.ne_of_lt (blk_lt (g := gb168) (o := .cells #[.slice A0_0 l0_0.length c0_0, .slice A0_1 l0_1.length c0_1] 26 (0, 0)) (kU BK168.out)) : gb168 ≠ gb190)); have NB190_168 := Aside0.mk ((by rw [hg]; exact Nat.ne_of_gt (blk_lt (g := gb168) (o := .cells #[.slice A0_0 l0_0.length c0_0, .slice A0_1 l0_1.length c0_1] 26 (0, 0)) (kU BK168.out)) : gb190 ≠ gb168)); replace BK168 := Aside0.mk (blk_below (g := gb168) (o := .cells #[.slice A0_0 l0_0.length c0_0, .slice A0_1 l0_1.length c0_1] 26 (0, 0)) (kU BK168.out) hb); have NB169_190 := Aside0.mk ((by rw [hg]; exact Nat.ne_of_lt (blk_lt (g := gb169) (o := .cells #[.slice (some ad176) l1_0.length c1_0, .slice A1_1 l1_1.length c1_1] 26 (0, 0)) (kU BK169.out)) : gb169 ≠ gb190)); have NB190_169 := Aside0.mk ((by rw [hg]; exact Nat.ne_of_gt (blk_lt (g := gb169) (o := .cells #[.slice (some ad176) l1_0.length c1_0, .slice A1_1 l1_1.length c1_1] 26 (0, 0)) (kU BK169.out)) : gb190 ≠ gb169)); replace BK169 := Aside0.mk (blk_below (g := gb169) (o := .cells #[.slice (some ad176) l1_0.length c1_0, .slice A1_1 l1_1.length c1_1] 26 (0, 0)) (kU BK169.out) hb); have NB170_190 := Aside0.mk ((by rw [hg]; exact Nat.ne_of_lt (blk_lt (g := gb170) (o := .cells #[.slice none 0 0, .slice none 0 0] 26 (0, 0)) (kU BK170.out)) : gb170 ≠ gb190)); have NB190_170 := Aside0.mk ((by rw [hg]; exact Nat.ne_of_gt (blk_lt (g := gb170) (o := .cells #[.slice none 0 0, .slice none 0 0] 26 (0, 0)) (kU BK170.out)) : gb190 ≠ gb170)); replace BK170 := Aside0.mk (blk_below (g := gb170) (o := .cells #[.slice none 0 0, .slice none 0 0] 26 (0, 0)) (kU BK170.out) hb); have NB171_190 := Aside0.mk ((by rw [hg]; exact Nat.ne_of_lt (blk_lt (g := gb171) (o := .cells #[.slice none 0 0, .slice none 0 0] 26 (0, 0)) (kU BK171.out)) : gb171 ≠ gb190)); have NB190_171 := Aside0.mk ((by rw [hg]; exact Nat.ne_of_gt (blk_lt (g := gb171) (o := .cells #[.slice none 0 0, .slice none 0 0] 26 (0, 0)) (kU BK171.out)) : gb190 ≠ gb171)); replace BK171 := Aside0.mk (blk_below (g := gb171) (o := .cells #[.slice none 0 0, .slice none 0 0] 26 (0, 0)) (kU BK171.out) hb); clear hb hbox hg; have hnb122 := NB190_168.out; have hnc122 := NB168_190.out; have hnb123 := NB190_169.out; have hnc123 := NB169_190.out; have hnb124 := NB190_170.out; have hnc124 := NB170_190.out; have hnb125 := NB190_171.out; have hnc125 := NB171_190.out; have hcz126_0 : w121.cell? ⟨gb190, 0, none⟩ = some (.slice none 0 0) := (blk_cell BK190.out 0).trans rfl; have hcz126_1 : w121.cell? ⟨gb190, 1, none⟩ = some (.slice none 0 0) := (blk_cell BK190.out 1).trans rfl; have hfz126_0 := blk_frozen BK190.out 0; have hfz126_1 := blk_frozen BK190.out 1))
             go_loopg [13] k3 (fun kq v13 w' => ∃ (x13_4 : Int) (x191001_4 : List Int) (u191001 : Value), v13 = .int .i64 x13_4 ∧ Aside0 (spec_Copy.l2 kq t187 x13_4 l0_0 l0_1 y183 x191001_4 = some (r1, r2, r3)) ∧ Aside0 (kq ≤ k3) ∧ Aside0 (Kd.S k26 26 w' w.heap.size (fun k_ => some k_ ≠ ((.slice Ao118 y183.length co118) : Value).ownBlock ∧ some k_ ≠ (u191001 : Value).ownBlock ∧ k_ ≠ gb168 ∧ k_ ≠ gb169 ∧ k_ ≠ gb170 ∧ k_ ≠ gb171 ∧ k_ ≠ gb190) v188 t187) ∧ Aside0 (Kd.R (Kd.int .i64) 3 w' w.heap.size (fun k_ => some k_ ≠ (u191001 : Value).ownBlock) (.slice Ao118 y183.length co118) y183) ∧ Aside0 (Kd.R (Kd.int .i64) 3 w' w.heap.size (fun k_ => some k_ ≠ ((.slice Ao118 y183.length co118) : Value).ownBlock) u191001 x191001_4) ∧ Aside0 (w'.heap[gb168]? = some (.cells #[(.slice A0_0 l0_0.length c0_0), (.slice A0_1 l0_1.length c0_1)] 26 (0, 0))) ∧ Aside0 (w'.heap[gb169]? = some (.cells #[(.slice (some ad176) l1_0.length c1_0), (.slice A1_1 l1_1.length c1_1)] 26 (0, 0))) ∧ Aside0 (w'.heap[gb170]? = some (.cells #[(.slice none 0 0), (.slice none 0 0)] 26 (0, 0))) ∧ Aside0 (w'.heap[gb171]? = some (.cells #[(.slice none 0 0), (.slice none 0 0)] 26 (0, 0))) ∧ Aside0 (w'.heap[gb190]? = some (.cells #[(.slice Ao118 y183.length co118), u191001] 26 (0, 0))) ∧ Aside0 (Below w.heap.size w w'))
             case atStart => exact ⟨(0), (([] : List Int)), (.slice none 0 0), (by first | rfl | (simp; done) | (simp [*]; done)), H', ⟨Nat.le_refl _⟩, ⟨by (with_reducible repeat (first | apply Kd.S_alloc | apply Kd.S_drewN | apply Kd.S_drew)); exact Kd.S_mono (Kd.S_far (p := ⟨gb190, 1, none⟩) (Kd.S_far (p := ⟨gb190, 0, none⟩) (Kd.S_mono HO189.out (fun k_ hk => (⟨hk, hk.2⟩ : _ ∧ k_ ≠ gb190))) (fun _ hk => hk.2) (.slice Ao118 y183.length co118)) (fun _ hk => hk.2) (.slice none 0 0)) (fun _ hk => ⟨hk.1.1.1.1.1.1.2, ⟨(by simp [Value.ownBlock]), ⟨hk.1.1.1.1.1.2, ⟨hk.1.1.1.1.2, ⟨hk.1.1.1.2, ⟨hk.1.1.2, hk.1.2⟩⟩⟩⟩⟩⟩)⟩, ⟨by (with_reducible repeat (first | apply Kd.R_alloc | apply Kd.R_drewN | apply Kd.R_drew)); exact Kd.R_mono (Kd.R_far (p := ⟨gb190, 1, none⟩) (Kd.R_far (p := ⟨gb190, 0, none⟩) (Kd.R_types HO185.out BK190.out (by decide)) (fun _ hk => hk.2) (.slice Ao118 y183.length co118)) (fun _ hk => hk.2) (.slice none 0 0)) (fun _ hk => (by simp [Value.ownBlock]))⟩, ⟨by first | exact Kd.R_nil _ _ _ _ _ | exact Kd.N_nil _ _ _ _ _ | exact Kd.V_nil _ _ _ _ _ | exact Kd.Q_nil _ _ _ _ _ | exact Kd.S_nil _ _ _ _ _⟩, ⟨by (with_reducible repeat (first | refine blk_drewN ?_ _ | refine blk_drew ?_ | refine blk_alloc ?_ _)); refine blk_far ?_ NB168_190.out _; (with_reducible repeat (first | refine blk_drewN ?_ _ | refine blk_drew ?_ | refine blk_alloc ?_ _)); refine blk_far ?_ NB168_190.out _; (with_reducible repeat (first | refine blk_drewN ?_ _ | refine blk_drew ?_ | refine blk_alloc ?_ _)); exact BK168.out⟩, ⟨by (with_reducible repeat (first | refine blk_drewN ?_ _ | refine blk_drew ?_ | refine blk_alloc ?_ _)); refine blk_far ?_ NB169_190.out _; (with_reducible repeat (first | refine blk_drewN ?_ _ | refine blk_drew ?_ | refine blk_alloc ?_ _)); refine blk_far ?_ NB169_190.out _; (with_reducible repeat (first | refine blk_drewN ?_ _ | refine blk_drew ?_ | refine blk_alloc ?_ _)); exact BK169.out⟩, ⟨by (with_reducible repeat (first | refine blk_drewN ?_ _ | refine blk_drew ?_ | refine blk_alloc ?_ _)); refine blk_far ?_ NB170_190.out _; (with_reducible repeat (first | refine blk_drewN ?_ _ | refine blk_drew ?_ | refine blk_alloc ?_ _)); refine blk_far ?_ NB170_190.out _; (with_reducible repeat (first | refine blk_drewN ?_ _ | refine blk_drew ?_ | refine blk_alloc ?_ _)); exact BK170.out⟩, ⟨by (with_reducible repeat (first | refine blk_drewN ?_ _ | refine blk_drew ?_ | refine blk_alloc ?_ _)); refine blk_far ?_ NB171_190.out _; (with_reducible repeat (first | refine blk_drewN ?_ _ | refine blk_drew ?_ | refine blk_alloc ?_ _)); refine blk_far ?_ NB171_190.out _; (with_reducible repeat (first | refine blk_drewN ?_ _ | refine blk_drew ?_ | refine blk_alloc ?_ _)); exact BK171.out⟩, ⟨by (with_reducible repeat (first | refine blk_drewN ?_ _ | refine blk_drew ?_ | refine blk_alloc ?_ _)); refine blk_put (cs := #[.slice Ao118 y183.length co118, .slice none 0 0]) ?_ 1 _ rfl; (with_reducible repeat (first | refine blk_drewN ?_ _ | refine blk_drew ?_ | refine blk_alloc ?_ _)); refine blk_put (cs := #[.slice none 0 0, .slice none 0 0]) ?_ 0 _ rfl; (with_reducible repeat (first | refine blk_drewN ?_ _ | refine blk_drew ?_ | refine blk_alloc ?_ _)); exact BK190.out⟩, ⟨by repeat (first | (with_reducible first | exact HB.out | apply below_alloc | apply pw_below_drewN | apply below_drew1 | refine below_set ?_ GE168.out | refine below_set ?_ GE169.out | refine below_set ?_ GE170.out | refine below_set ?_ GE171.out | refine below_set ?_ GE190.out) | exact HB.out)⟩⟩
             case round =>
              clear H'
              try clear c1
              try clear p1
              try clear q1
              try clear hx1
              try clear qi1
              try clear c2
              try clear p2
              try clear c3
              try clear c4
              try clear c5
              try clear c6
              try clear p6
              try clear c7
              try clear c8
              try clear c9
              try clear c10
              try clear c11
              try clear c12
              try clear c14
              try clear c16
              try clear c17
              try clear p17
              try clear q17
              try clear hx17
              try clear qi17
              try clear c18
              try clear c21
              try clear c22
              try clear c25
              try clear c26
              try clear c27
              try clear c30
              try clear c31
              try clear c32
              try clear c33
              try clear c34
              try clear c35
              try clear c36
              try clear c39
              try clear c39b0
              try clear c39b1
              try clear c40
              try clear c41
              try clear c42
              try clear c43
              try clear c44
              try clear c45
              try clear c46
              try clear c48
              try clear c49
              try clear c51
              try clear c52
              try clear c53
              try clear c54
              try clear c56
              try clear c57
              try clear c59
              try clear c59b0
              try clear c59b1
              try clear c61
              try clear c61b0
              try clear c61b1
              try clear c62
              try clear c62b0
              try clear c62b1
              try clear p64
              try clear c65
              try clear c66
              try clear c67
              try clear c69
              try clear c70
              try clear c72
              try clear c72b0
              try clear c73
              try clear c73b0
              try clear c74
              try clear c74b0
              try clear c75
              try clear c76
              try clear c77
              try clear c79
              try clear c80
              try clear c82
              try clear c84
              try clear c85
              try clear c86
              try clear c88
              try clear c89
              try clear c90
              try clear c91
              try clear c92
              try clear c92b0
              try clear c92b1
              try clear c93
              try clear c93b0
              try clear c94
              try clear c94b0
              try clear c94b1
              try clear c94b2
              try clear c96
              try clear c96b0
              try clear c97
              try clear c97b0
              try clear c98
              try clear c99
              try clear c100
              try clear c104
              try clear c104b0
              try clear c104b1
              try clear c105
              try clear c107
              try clear c109
              try clear c110
              try clear c111
              try clear c122
              try clear c123
              try clear c124
              try clear c125
              try clear hcz101_0
              try clear hcz101_1
              try clear hcz112_0
              try clear hcz112_1
              try clear hcz119_0
              try clear hcz119_1
              try clear hcz11_0
              try clear hcz11_1
              try clear hcz126_0
              try clear hcz126_1
              try clear hcz19_0
              try clear hcz19_1
              try clear hcz23_0
              try clear hcz23_1
              try clear hcz28_0
              try clear hcz28_1
              try clear hcz34_0
              try clear hcz34_1
              try clear hcz37_0
              try clear hcz37_1
              try clear hcz43_0
              try clear hcz43_1
              try clear hcz47_0
              try clear hcz47_1
              try clear hcz50_0
              try clear hcz50_1
              try clear hcz55_0
              try clear hcz55_1
              try clear hcz58_0
              try clear hcz58_1
              try clear hcz68_0
              try clear hcz68_1
              try clear hcz71_0
              try clear hcz71_1
              try clear hcz78_0
              try clear hcz78_1
              try clear hcz81_0
              try clear hcz81_1
              try clear hcz83_0
              try clear hcz83_1
              try clear hcz87_0
              try clear hcz87_1
              try clear hcz91_0
              try clear hcz91_1
              try clear hfz101_0
              try clear hfz101_1
              try clear hfz112_0
              try clear hfz112_1
              try clear hfz119_0
              try clear hfz119_1
              try clear hfz11_0
              try clear hfz11_1
              try clear hfz126_0
              try clear hfz126_1
              try clear hfz19_0
              try clear hfz19_1
              try clear hfz23_0
              try clear hfz23_1
              try clear hfz28_0
              try clear hfz28_1
              try clear hfz34_0
              try clear hfz34_1
              try clear hfz37_0
              try clear hfz37_1
              try clear hfz43_0
              try clear hfz43_1
              try clear hfz47_0
              try clear hfz47_1
              try clear hfz50_0
              try clear hfz50_1
              try clear hfz55_0
              try clear hfz55_1
              try clear hfz58_0
              try clear hfz58_1
              try clear hfz68_0
              try clear hfz68_1
              try clear hfz71_0
              try clear hfz71_1
              try clear hfz78_0
              try clear hfz78_1
              try clear hfz81_0
              try clear hfz81_1
              try clear hfz83_0
              try clear hfz83_1
              try clear hfz87_0
              try clear hfz87_1
              try clear hfz91_0
              try clear hfz91_1
              try clear hx174_0
              try clear hx175_0
              try clear hx176_0
              try clear hx177_0
              try clear p1
              try clear p17
              try clear p174
              try clear p175
              try clear p176
              try clear p177
              try clear p2
              try clear p6
              try clear p64
              try clear q1
              try clear q17
              try clear q174
              try clear q175
              try clear q176
              try clear q177
              obtain ⟨x13_4, x191001_4, u191001, rfl, HA, HK4, HO_11, HO_191000, HO_191001, BK168, BK169, BK170, BK171, BK190, HB⟩ := hrel
              cases gk with
              | zero => exact absurd HA.out (by simp [spec_Copy.l2])
              | succ k4 =>
               have H := HA.out
               clear HA
               simp only [spec_Copy.l2] at H
               by_cases c127 : x13_4 < (t187.length : Int)
               ·
                rw [if_pos c127] at H
                have c127b0 : decide (x13_4 < (t187.length : Int)) = true := decide_eq_true c127
                clear c127
                have H' := Aside0.mk H
                clear H
                obtain ⟨Ao128, co128, eo128⟩ := Kd.S_slice HO_11.out
                subst eo128
                go_wp2
                go_loopg [14] k4 (fun kq v14 w' => ∃ (x14_5 : Int) (x191001_5 : List Int) (u191001 : Value), v14 = .int .i64 x14_5 ∧ Aside0 (spec_Copy.l3 kq t187 x13_4 x14_5 l0_0 l0_1 y183 x191001_5 = some (r1, r2, r3)) ∧ Aside0 (kq ≤ k4) ∧ Aside0 (Kd.S k26 26 w' w.heap.size (fun k_ => some k_ ≠ ((.slice Ao118 y183.length co118) : Value).ownBlock ∧ some k_ ≠ (u191001 : Value).ownBlock ∧ k_ ≠ gb168 ∧ k_ ≠ gb169 ∧ k_ ≠ gb170 ∧ k_ ≠ gb171 ∧ k_ ≠ gb190) (.slice Ao128 t187.length co128) t187) ∧ Aside0 (Kd.R (Kd.int .i64) 3 w' w.heap.size (fun k_ => some k_ ≠ (u191001 : Value).ownBlock) (.slice Ao118 y183.length co118) y183) ∧ Aside0 (Kd.R (Kd.int .i64) 3 w' w.heap.size (fun k_ => some k_ ≠ ((.slice Ao118 y183.length co118) : Value).ownBlock) u191001 x191001_5) ∧ Aside0 (w'.heap[gb168]? = some (.cells #[(.slice A0_0 l0_0.length c0_0), (.slice A0_1 l0_1.length c0_1)] 26 (0, 0))) ∧ Aside0 (w'.heap[gb169]? = some (.cells #[(.slice (some ad176) l1_0.length c1_0), (.slice A1_1 l1_1.length c1_1)] 26 (0, 0))) ∧ Aside0 (w'.heap[gb170]? = some (.cells #[(.slice none 0 0), (.slice none 0 0)] 26 (0, 0))) ∧ Aside0 (w'.heap[gb171]? = some (.cells #[(.slice none 0 0), (.slice none 0 0)] 26 (0, 0))) ∧ Aside0 (w'.heap[gb190]? = some (.cells #[(.slice Ao118 y183.length co118), u191001] 26 (0, 0))) ∧ Aside0 (Below w.heap.size w w'))
                case atStart => exact ⟨(0), (x191001_4), (u191001), (by first | rfl | (simp; done) | (simp [*]; done)), H', ⟨Nat.le_refl _⟩, ⟨by (with_reducible repeat (first | apply Kd.S_alloc | apply Kd.S_drewN | apply Kd.S_drew)); exact HO_11.out⟩, ⟨by (with_reducible repeat (first | apply Kd.R_alloc | apply Kd.R_drewN | apply Kd.R_drew)); exact HO_191000.out⟩, ⟨by (with_reducible repeat (first | apply Kd.R_alloc | apply Kd.R_drewN | apply Kd.R_drew)); exact HO_191001.out⟩, ⟨by (with_reducible repeat (first | refine blk_drewN ?_ _ | refine blk_drew ?_ | refine blk_alloc ?_ _)); exact BK168.out⟩, ⟨by (with_reducible repeat (first | refine blk_drewN ?_ _ | refine blk_drew ?_ | refine blk_alloc ?_ _)); exact BK169.out⟩, ⟨by (with_reducible repeat (first | refine blk_drewN ?_ _ | refine blk_drew ?_ | refine blk_alloc ?_ _)); exact BK170.out⟩, ⟨by (with_reducible repeat (first | refine blk_drewN ?_ _ | refine blk_drew ?_ | refine blk_alloc ?_ _)); exact BK171.out⟩, ⟨by (with_reducible repeat (first | refine blk_drewN ?_ _ | refine blk_drew ?_ | refine blk_alloc ?_ _)); exact BK190.out⟩, ⟨by repeat (first | (with_reducible first | exact HB.out | apply below_alloc | apply pw_below_drewN | apply below_drew1 | refine below_set ?_ GE168.out | refine below_set ?_ GE169.out | refine below_set ?_ GE170.out | refine below_set ?_ GE171.out | refine below_set ?_ GE190.out) | exact HB.out)⟩⟩
                case round =>
                 clear H'
                 try clear c1
                 try clear p1
                 try clear q1
                 try clear hx1
                 try clear qi1
                 try clear c2
                 try clear p2
                 try clear c3
                 try clear c4
                 try clear c5
                 try clear c6
                 try clear p6
                 try clear c7
                 try clear c8
                 try clear c9
                 try clear c10
                 try clear c11
                 try clear c12
                 try clear c14
                 try clear c16
                 try clear c17
                 try clear p17
                 try clear q17
                 try clear hx17
                 try clear qi17
                 try clear c18
                 try clear c21
                 try clear c22
                 try clear c25
                 try clear c26
                 try clear c27
                 try clear c30
                 try clear c31
                 try clear c32
                 try clear c33
                 try clear c34
                 try clear c35
                 try clear c36
                 try clear c39
                 try clear c39b0
                 try clear c39b1
                 try clear c40
                 try clear c41
                 try clear c42
                 try clear c43
                 try clear c44
                 try clear c45
                 try clear c46
                 try clear c48
                 try clear c49
                 try clear c51
                 try clear c52
                 try clear c53
                 try clear c54
                 try clear c56
                 try clear c57
                 try clear c59
                 try clear c59b0
                 try clear c59b1
                 try clear c61
                 try clear c61b0
                 try clear c61b1
                 try clear c62
                 try clear c62b0
                 try clear c62b1
                 try clear p64
                 try clear c65
                 try clear c66
                 try clear c67
                 try clear c69
                 try clear c70
                 try clear c72
                 try clear c72b0
                 try clear c73
                 try clear c73b0
                 try clear c74
                 try clear c74b0
                 try clear c75
                 try clear c76
                 try clear c77
                 try clear c79
                 try clear c80
                 try clear c82
                 try clear c84
                 try clear c85
                 try clear c86
                 try clear c88
                 try clear c89
                 try clear c90
                 try clear c91
                 try clear c92
                 try clear c92b0
                 try clear c92b1
                 try clear c93
                 try clear c93b0
                 try clear c94
                 try clear c94b0
                 try clear c94b1
                 try clear c94b2
                 try clear c96
                 try clear c96b0
                 try clear c97
                 try clear c97b0
                 try clear c98
                 try clear c99
                 try clear c100
                 try clear c104
                 try clear c104b0
                 try clear c104b1
                 try clear c105
                 try clear c107
                 try clear c109
                 try clear c110
                 try clear c111
                 try clear c122
                 try clear c123
                 try clear c124
                 try clear c125
                 try clear c127
                 try clear c127b0
                 try clear hcz101_0
                 try clear hcz101_1
                 try clear hcz112_0
                 try clear hcz112_1
                 try clear hcz119_0
                 try clear hcz119_1
                 try clear hcz11_0
                 try clear hcz11_1
                 try clear hcz126_0
                 try clear hcz126_1
                 try clear hcz19_0
                 try clear hcz19_1
                 try clear hcz23_0
                 try clear hcz23_1
                 try clear hcz28_0
                 try clear hcz28_1
                 try clear hcz34_0
                 try clear hcz34_1
                 try clear hcz37_0
                 try clear hcz37_1
                 try clear hcz43_0
                 try clear hcz43_1
                 try clear hcz47_0
                 try clear hcz47_1
                 try clear hcz50_0
                 try clear hcz50_1
                 try clear hcz55_0
                 try clear hcz55_1
                 try clear hcz58_0
                 try clear hcz58_1
                 try clear hcz68_0
                 try clear hcz68_1
                 try clear hcz71_0
                 try clear hcz71_1
                 try clear hcz78_0
                 try clear hcz78_1
                 try clear hcz81_0
                 try clear hcz81_1
                 try clear hcz83_0
                 try clear hcz83_1
                 try clear hcz87_0
                 try clear hcz87_1
                 try clear hcz91_0
                 try clear hcz91_1
                 try clear hfz101_0
                 try clear hfz101_1
                 try clear hfz112_0
                 try clear hfz112_1
                 try clear hfz119_0
                 try clear hfz119_1
                 try clear hfz11_0
                 try clear hfz11_1
                 try clear hfz126_0
                 try clear hfz126_1
                 try clear hfz19_0
                 try clear hfz19_1
                 try clear hfz23_0
                 try clear hfz23_1
                 try clear hfz28_0
                 try clear hfz28_1
                 try clear hfz34_0
                 try clear hfz34_1
                 try clear hfz37_0
                 try clear hfz37_1
                 try clear hfz43_0
                 try clear hfz43_1
                 try clear hfz47_0
                 try clear hfz47_1
                 try clear hfz50_0
                 try clear hfz50_1
                 try clear hfz55_0
                 try clear hfz55_1
                 try clear hfz58_0
                 try clear hfz58_1
                 try clear hfz68_0
                 try clear hfz68_1
                 try clear hfz71_0
                 try clear hfz71_1
                 try clear hfz78_0
                 try clear hfz78_1
                 try clear hfz81_0
                 try clear hfz81_1
                 try clear hfz83_0
                 try clear hfz83_1
                 try clear hfz87_0
                 try clear hfz87_1
                 try clear hfz91_0
                 try clear hfz91_1
                 try clear hx174_0
                 try clear hx175_0
                 try clear hx176_0
                 try clear hx177_0
                 try clear p1
                 try clear p17
                 try clear p174
                 try clear p175
                 try clear p176
                 try clear p177
                 try clear p2
                 try clear p6
                 try clear p64
                 try clear q1
                 try clear q17
                 try clear q174
                 try clear q175
                 try clear q176
                 try clear q177
                 obtain ⟨x14_5, x191001_5, u191001, rfl, HA, HK5, HO_11, HO_191000, HO_191001, BK168, BK169, BK170, BK171, BK190, HB⟩ := hrel
                 cases gk with
                 | zero => exact absurd HA.out (by simp [spec_Copy.l3])
                 | succ k5 =>
                  have H := HA.out
                  clear HA
                  simp only [spec_Copy.l3] at H
                  by_cases c129 : (l0_1.length : Int) = 0
                  ·
                   rw [if_pos c129] at H
                   exact absurd H (by simp)
                  ·
                   rw [if_neg c129] at H
                   have c129b0 : ((l0_1.length : Int) == 0) = false := beq_eq_false_iff_ne.mpr c129
                   have c129b1 : ((l0_1.length : Int) != 0) = true := bne_iff_ne.mpr c129
                   have c129b2 : ¬ (l0_1 = []) := fun h_ => c129 (by rw [h_]; rfl)
                   obtain ⟨ji130, hji130⟩ : ∃ j_ : Int, (Int.tmod x13_4 (l0_1.length : Int)) = j_ := ⟨_, rfl⟩
                   replace H : (if 0 ≤ (ji130) then (if (ji130) < (l0_1.length : Int) then (if x14_5 < (rd l0_1 (ji130)) then (if 0 ≤ x13_4 then (if x13_4 < (t187.length : Int) then (if x191001_5.length + ((rd_T26 t187 x13_4).f1).length < 17592186044416 then (spec_Copy.l3 k5 t187 x13_4 (wrap64 (x14_5 + 1)) l0_0 l0_1 y183 (x191001_5 ++ ((rd_T26 t187 x13_4).f1))) else (none)) else (none)) else (none)) else (spec_Copy.l2 k5 t187 (wrap64 (x13_4 + 1)) l0_0 l0_1 y183 x191001_5)) else (none)) else (none)) = some (r1, r2, r3) := by first | (rw [hji130] at H; exact H) | (simp only [hji130] at H ⊢; exact H)
                   by_cases c131 : 0 ≤ (ji130)
                   ·
                    rw [if_pos c131] at H
                    have c131b0 : decide (0 ≤ (ji130)) = true := decide_eq_true c131
                    clear c131
                    by_cases c132 : (ji130) < (l0_1.length : Int)
                    ·
                     rw [if_pos c132] at H
                     have c132b0 : decide ((ji130) < (l0_1.length : Int)) = true := decide_eq_true c132
                     clear c132
                     by_cases c133 : x14_5 < (rd l0_1 (ji130))
                     ·
                      rw [if_pos c133] at H
                      have c133b0 : decide (x14_5 < (rd l0_1 (ji130))) = true := decide_eq_true c133
                      clear c133
                      by_cases c134 : 0 ≤ x13_4
                      ·
                       rw [if_pos c134] at H
                       have c134b0 : decide (0 ≤ x13_4) = true := decide_eq_true c134
                       clear c134
                       by_cases c135 : x13_4 < (t187.length : Int)
                       ·
                        rw [if_pos c135] at H
                        have c135b0 : decide (x13_4 < (t187.length : Int)) = true := decide_eq_true c135
                        clear c135
                        by_cases c136 : x191001_5.length + ((rd_T26 t187 x13_4).f1).length < 17592186044416
                        ·
                         rw [if_pos c136] at H
                         have LMc136 := Aside0.mk c136
                         clear c136
                         obtain ⟨y193, hy193⟩ : ∃ y_ : List Int, y_ = (x191001_5 ++ ((rd_T26 t187 x13_4).f1)) := ⟨_, rfl⟩
                         replace H : (spec_Copy.l3 k5 t187 x13_4 (wrap64 (x14_5 + 1)) l0_0 l0_1 y183 y193) = some (r1, r2, r3) := by first | (rw [hy193]; with_reducible exact H) | (have H2_ := (Option.bind_some _ _).symm.trans H; rw [hy193]; with_reducible exact H2_) | (have H2_ := (Option.bind_some _ _).symm.trans H; with_reducible exact H2_) | with_reducible exact H | (rw [hy193]; exact H) | exact H
                         have Ny193 := Aside0.mk hy193
                         clear hy193
                         have H' := Aside0.mk H
                         clear H
                         try go_wp2
                         replace HO_11 := Aside0.mk (Kd.S_drew HO_11.out)
                         replace HO_191000 := Aside0.mk (Kd.R_drew HO_191000.out)
                         replace HO_191001 := Aside0.mk (Kd.R_drew HO_191001.out)
                         replace BK168 := Aside0.mk (blk_drew BK168.out)
                         replace BK169 := Aside0.mk (blk_drew BK169.out)
                         replace BK170 := Aside0.mk (blk_drew BK170.out)
                         replace BK171 := Aside0.mk (blk_drew BK171.out)
                         replace BK190 := Aside0.mk (blk_drew BK190.out)
                         replace HB := Aside0.mk (below_drew1 HB.out)
                         have p191 : 0 ≤ ((ji130) : Int) := of_decide_eq_true (by first | (with_reducible assumption) | assumption)
                         have q191 : (ji130) < (l0_1.length : Int) := of_decide_eq_true (by first | (with_reducible assumption) | assumption)
                         obtain ⟨ad191, e191, hx191_0⟩ := Kd.at_int HR0_1.out (ji130) p191 q191
                         have hw191_0 := hx191_0
                         cases e191
                         replace hx191_0 := (HB.out.cell (World.block_lt_of_cell? w _ hx191_0)).trans hx191_0
                         replace p191 := eq_true p191
                         replace q191 := eq_true q191
                         refine start_ (n := 11) (S := fun w' => w'.cell? ⟨gb168, 0, none⟩ = some (.slice A0_0 l0_0.length c0_0) ∧ w'.cell? ⟨gb168, 1, none⟩ = some (.slice (some ad191) l0_1.length c0_1) ∧ w'.cell? (ad191.add ((ji130)).toNat) = some (.int .i64 (rd l0_1 (ji130)))) (ds := []) #[false, false, false, false, false, false, false, false, false, false, false] (by kernel_rfl) rfl rfl ⟨(blk_cell BK168.out 0).trans rfl, (blk_cell BK168.out 1).trans rfl, ((HB.out.cell (World.block_lt_of_cell? w _ hw191_0)).trans hw191_0)⟩ (fun hHeld => ?_); refine with_tabW spec_Copy.tab27 spec_Copy.bits27 (fun HT_ HW_ => ?_)
                         generalize wr.drew = w137 at HO_11 HO_191000 HO_191001 BK168 BK169 BK170 BK171 BK190 HB hx191_0 hHeld ⊢
                         refine pure_ (i := 0) (N := some 108) (v := ?_) (a' := ?_) #[true, false, false, false, false, false, false, false, false, false, false] rfl rfl (any_of HT_.out (by kernel_rfl)) (fun _ _ _ h => h) (Or.inl ⟨by rfl, ?_⟩) ?_ ?_
                         rotate_left
                         ·
                          intro w'
                          go_simp
                          with_reducible rfl
                         rotate_left
                         ·
                          simp only [Act.put, List.setIfInBounds_toArray, List.set_cons_zero, List.set_cons_succ, i64_w, i32_w]
                          rfl
                         refine pure_ (i := 1) (N := some 109) (v := ?_) (a' := ?_) #[true, true, false, false, false, false, false, false, false, false, false] rfl rfl (any_of HT_.out (by kernel_rfl)) (fun _ _ _ h => h) (Or.inl ⟨by rfl, ?_⟩) ?_ ?_
                         rotate_left
                         ·
                          intro w'
                          go_simp
                          with_reducible rfl
                         rotate_left
                         ·
                          simp only [Act.put, List.setIfInBounds_toArray, List.set_cons_zero, List.set_cons_succ, i64_w, i32_w]
                          rfl
                         refine pure_ (i := 3) (N := some 111) (v := ?_) (a' := ?_) #[true, true, false, true, false, false, false, false, false, false, false] rfl rfl (any_of HT_.out (by kernel_rfl)) (fun _ _ _ h => h) (Or.inl ⟨by rfl, ?_⟩) ?_ ?_
                         rotate_left
                         ·
                          intro w'
                          go_simp
                          with_reducible rfl
                         rotate_left
                         ·
                          simp only [Act.put, List.setIfInBounds_toArray, List.set_cons_zero, List.set_cons_succ, i64_w, i32_w]
                          rfl
                         refine pure_ (i := 4) (N := some 112) (v := ?_) (a' := ?_) #[true, true, false, true, true, false, false, false, false, false, false] rfl rfl (any_of HT_.out (by kernel_rfl)) (fun _ _ _ h => h) (Or.inl ⟨by rfl, ?_⟩) ?_ ?_
                         rotate_left
                         ·
                          intro w'
                          go_simp
                          with_reducible rfl
                         rotate_left
                         ·
                          simp only [Act.put, List.setIfInBounds_toArray, List.set_cons_zero, List.set_cons_succ, i64_w, i32_w]
                          rfl
                         refine take_ (i := 2) (N := some 110) (v := ?_) (a' := ?_) #[true, true, true, true, true, false, false, false, false, false, false] rfl rfl (take_ofW HT_.out HW_.out (by kernel_rfl)) (fun _ _ _ h => h) (Or.inl ⟨by rfl, ?_⟩) hHeld ?_ ?_
                         rotate_left
                         ·
                          rintro w' ⟨s0, s1, s2⟩
                          go_simp
                          with_reducible rfl
                         rotate_left
                         ·
                          simp only [Act.put, List.setIfInBounds_toArray, List.set_cons_zero, List.set_cons_succ, i64_w, i32_w]
                          rfl
                         refine take_ (i := 5) (N := some 113) (v := ?_) (a' := ?_) #[true, true, true, true, true, true, false, false, false, false, false] rfl rfl (take_ofW HT_.out HW_.out (by kernel_rfl)) (fun _ _ _ h => h) (Or.inl ⟨by rfl, ?_⟩) hHeld ?_ ?_
                         rotate_left
                         ·
                          rintro w' ⟨s0, s1, s2⟩
                          go_simp
                          with_reducible rfl
                         rotate_left
                         ·
                          simp only [Act.put, List.setIfInBounds_toArray, List.set_cons_zero, List.set_cons_succ, i64_w, i32_w]
                          rfl
                         refine pure_ (i := 6) (N := some 114) (v := ?_) (a' := ?_) #[true, true, true, true, true, true, true, false, false, false, false] rfl rfl (any_of HT_.out (by kernel_rfl)) (fun _ _ _ h => h) (Or.inl ⟨by rfl, ?_⟩) ?_ ?_
                         rotate_left
                         ·
                          intro w'
                          go_simp
                          with_reducible rfl
                         rotate_left
                         ·
                          simp only [Act.put, List.setIfInBounds_toArray, List.set_cons_zero, List.set_cons_succ, i64_w, i32_w]
                          rfl
                         refine pure_ (i := 7) (N := some 115) (v := ?_) (a' := ?_) #[true, true, true, true, true, true, true, true, false, false, false] rfl rfl (any_of HT_.out (by kernel_rfl)) (fun _ _ _ h => h) (Or.inl ⟨by rfl, ?_⟩) ?_ ?_
                         rotate_left
                         ·
                          intro w'
                          go_simp
                          with_reducible rfl
                         rotate_left
                         ·
                          simp only [Act.put, List.setIfInBounds_toArray, List.set_cons_zero, List.set_cons_succ, i64_w, i32_w]
                          rfl
                         refine pure_ (i := 8) (N := some 116) (v := ?_) (a' := ?_) #[true, true, true, true, true, true, true, true, true, false, false] rfl rfl (any_of HT_.out (by kernel_rfl)) (fun _ _ _ h => h) (Or.inl ⟨by rfl, ?_⟩) ?_ ?_
                         rotate_left
                         ·
                          intro w'
                          go_simp
                          with_reducible rfl
                         rotate_left
                         ·
                          simp only [Act.put, List.setIfInBounds_toArray, List.set_cons_zero, List.set_cons_succ, i64_w, i32_w]
                          rfl
                         refine take_ (i := 9) (N := some 117) (v := ?_) (a' := ?_) #[true, true, true, true, true, true, true, true, true, true, false] rfl rfl (take_ofW HT_.out HW_.out (by kernel_rfl)) (fun _ _ _ h => h) (Or.inl ⟨by rfl, ?_⟩) hHeld ?_ ?_
                         rotate_left
                         ·
                          rintro w' ⟨s0, s1, s2⟩
                          go_simp
                          with_reducible rfl
                         rotate_left
                         ·
                          simp only [Act.put, List.setIfInBounds_toArray, List.set_cons_zero, List.set_cons_succ, i64_w, i32_w]
                          rfl
                         refine pure_ (i := 10) (N := some 118) (v := ?_) (a' := ?_) #[true, true, true, true, true, true, true, true, true, true, true] rfl rfl (any_of HT_.out (by kernel_rfl)) (fun _ _ _ h => h) (Or.inl ⟨by rfl, ?_⟩) ?_ ?_
                         rotate_left
                         ·
                          intro w'
                          go_simp
                          with_reducible rfl
                         rotate_left
                         ·
                          simp only [Act.put, List.setIfInBounds_toArray, List.set_cons_zero, List.set_cons_succ, i64_w, i32_w]
                          rfl
                         refine done_ (done_of HT_.out (by kernel_rfl)) ?_
                         try go_wp2
                         replace HO_11 := Aside0.mk (Kd.S_drew HO_11.out)
                         replace HO_191000 := Aside0.mk (Kd.R_drew HO_191000.out)
                         replace HO_191001 := Aside0.mk (Kd.R_drew HO_191001.out)
                         replace BK168 := Aside0.mk (blk_drew BK168.out)
                         replace BK169 := Aside0.mk (blk_drew BK169.out)
                         replace BK170 := Aside0.mk (blk_drew BK170.out)
                         replace BK171 := Aside0.mk (blk_drew BK171.out)
                         replace BK190 := Aside0.mk (blk_drew BK190.out)
                         replace HB := Aside0.mk (below_drew1 HB.out)
                         have p192 : 0 ≤ (x13_4 : Int) := of_decide_eq_true (by first | (with_reducible assumption) | assumption)
                         have q192 : x13_4 < (t187.length : Int) := of_decide_eq_true (by first | (with_reducible assumption) | assumption)
                         obtain ⟨ad192, A192_0, c192_0, A192_1, c192_1, e192, hx192_0, hx192_1, hl192_0, hi192_0, hl192_1, hi192_1⟩ := at_T26 (Kd.S_reads' HO_11.out).2.2 x13_4 p192 q192
                         cases e192
                         obtain ⟨ce192, hce192, hMe192, hcc192⟩ := Kd.S_get HO_11.out z26 x13_4 p192 (by first | exact q192 | exact of_decide_eq_true (by first | (with_reducible assumption) | assumption) | (have e_ := (Kd.S_reads' HO_11.out).1; omega))
                         obtain ⟨ve192_0, ve192_1, rfl, ge192_0, ge192_1⟩ := k26_openM hMe192
                         have hv192_0 := hcc192 0 _ rfl
                         rw [Nat.add_zero] at hv192_0
                         replace hv192_0 := Option.some.inj (hv192_0.symm.trans hx192_0)
                         rw [hv192_0] at ge192_0
                         have HL192_0 := Aside0.mk (show Kd.R (Kd.int .i64) 3 _ _ _ _ ((rd_T26 t187 x13_4).f0) from ge192_0)
                         clear hv192_0 ge192_0
                         have hv192_1 := hcc192 1 _ rfl
                         rw [add_field _ _ 1 (by omega)] at hv192_1
                         replace hv192_1 := Option.some.inj (hv192_1.symm.trans hx192_1)
                         rw [hv192_1] at ge192_1
                         have HL192_1 := Aside0.mk (show Kd.R (Kd.int .i64) 3 _ _ _ _ ((rd_T26 t187 x13_4).f1) from ge192_1)
                         clear hv192_1 ge192_1
                         clear hcc192 hce192
                         have HR192_0 := Aside0.mk hi192_0
                         have HC192_0 := Aside0.mk hl192_0
                         clear hi192_0 hl192_0
                         have HR192_1 := Aside0.mk hi192_1
                         have HC192_1 := Aside0.mk hl192_1
                         clear hi192_1 hl192_1
                         replace p192 := eq_true p192
                         replace q192 := eq_true q192
                         refine start_ (n := 10) (S := fun w' => w'.cell? ⟨gb190, 0, none⟩ = some (.slice Ao118 y183.length co118) ∧ w'.cell? ⟨gb190, 1, none⟩ = some (u191001) ∧ w'.cell? (ad192.add ((x13_4).toNat * 2)) = some (.slice A192_0 ((rd_T26 t187 x13_4).f0).length c192_0) ∧ w'.cell? ⟨(ad192.add ((x13_4).toNat * 2)).block, (ad192.add ((x13_4).toNat * 2)).off + 1, none⟩ = some (.slice A192_1 ((rd_T26 t187 x13_4).f1).length c192_1)) (ds := [7, 9]) #[false, false, false, false, false, false, false, false, false, false] (by kernel_rfl) rfl rfl ⟨(blk_cell BK190.out 0).trans rfl, (blk_cell BK190.out 1).trans rfl, hx192_0, hx192_1⟩ (fun hHeld => ?_); refine with_tabW spec_Copy.tab29 spec_Copy.bits29 (fun HT_ HW_ => ?_)
                         generalize w137.drew = w138 at HO_11 HO_191000 HO_191001 BK168 BK169 BK170 BK171 BK190 HB HL192_0 HL192_1 HR192_0 HR192_1 hx192_0 hx192_1 hHeld ⊢
                         refine pure_ (i := 0) (N := some 121) (v := ?_) (a' := ?_) #[true, false, false, false, false, false, false, false, false, false] rfl rfl (any_of HT_.out (by kernel_rfl)) (fun _ _ _ h => h) (Or.inl ⟨by rfl, ?_⟩) ?_ ?_
                         rotate_left
                         ·
                          intro w'
                          go_simp
                          with_reducible rfl
                         rotate_left
                         ·
                          simp only [Act.put, List.setIfInBounds_toArray, List.set_cons_zero, List.set_cons_succ, i64_w, i32_w]
                          rfl
                         refine pure_ (i := 2) (N := some 123) (v := ?_) (a' := ?_) #[true, false, true, false, false, false, false, false, false, false] rfl rfl (any_of HT_.out (by kernel_rfl)) (fun _ _ _ h => h) (Or.inl ⟨by rfl, ?_⟩) ?_ ?_
                         rotate_left
                         ·
                          intro w'
                          go_simp
                          with_reducible rfl
                         rotate_left
                         ·
                          simp only [Act.put, List.setIfInBounds_toArray, List.set_cons_zero, List.set_cons_succ, i64_w, i32_w]
                          rfl
                         refine pure_ (i := 3) (N := some 124) (v := ?_) (a' := ?_) #[true, false, true, true, false, false, false, false, false, false] rfl rfl (any_of HT_.out (by kernel_rfl)) (fun _ _ _ h => h) (Or.inl ⟨by rfl, ?_⟩) ?_ ?_
                         rotate_left
                         ·
                          intro w'
                          go_simp
                          with_reducible rfl
                         rotate_left
                         ·
                          simp only [Act.put, List.setIfInBounds_toArray, List.set_cons_zero, List.set_cons_succ, i64_w, i32_w]
                          rfl
                         refine pure_ (i := 4) (N := some 125) (v := ?_) (a' := ?_) #[true, false, true, true, true, false, false, false, false, false] rfl rfl (any_of HT_.out (by kernel_rfl)) (fun _ _ _ h => h) (Or.inl ⟨by rfl, ?_⟩) ?_ ?_
                         rotate_left
                         ·
                          intro w'
                          go_simp
                          with_reducible rfl
                         rotate_left
                         ·
                          simp only [Act.put, List.setIfInBounds_toArray, List.set_cons_zero, List.set_cons_succ, i64_w, i32_w]
                          rfl
                         refine pure_ (i := 5) (N := some 126) (v := ?_) (a' := ?_) #[true, false, true, true, true, true, false, false, false, false] rfl rfl (any_of HT_.out (by kernel_rfl)) (fun _ _ _ h => h) (Or.inl ⟨by rfl, ?_⟩) ?_ ?_
                         rotate_left
                         ·
                          intro w'
                          go_simp
                          with_reducible rfl
                         rotate_left
                         ·
                          simp only [Act.put, List.setIfInBounds_toArray, List.set_cons_zero, List.set_cons_succ, i64_w, i32_w]
                          rfl
                         refine take_ (i := 1) (N := some 122) (v := ?_) (a' := ?_) #[true, true, true, true, true, true, false, false, false, false] rfl rfl (take_ofW HT_.out HW_.out (by kernel_rfl)) (fun _ _ _ h => h) (Or.inl ⟨by rfl, ?_⟩) hHeld ?_ ?_
                         rotate_left
                         ·
                          rintro w' ⟨s0, s1, s2, s3⟩
                          go_simp
                          with_reducible rfl
                         rotate_left
                         ·
                          simp only [Act.put, List.setIfInBounds_toArray, List.set_cons_zero, List.set_cons_succ, i64_w, i32_w]
                          rfl
                         refine take_ (i := 6) (N := some 127) (v := ?_) (a' := ?_) #[true, true, true, true, true, true, true, false, false, false] rfl rfl (take_ofW HT_.out HW_.out (by kernel_rfl)) (fun _ _ _ h => h) (Or.inl ⟨by rfl, ?_⟩) hHeld ?_ ?_
                         rotate_left
                         ·
                          rintro w' ⟨s0, s1, s2, s3⟩
                          go_simp
                          with_reducible rfl
                         rotate_left
                         ·
                          simp only [Act.put, List.setIfInBounds_toArray, List.set_cons_zero, List.set_cons_succ, i64_w, i32_w]
                          rfl
                         refine last_ (i := 7) (N := some 128) #[true, true, true, true, true, true, true, true, false, false] rfl rfl (one_of HT_.out (by kernel_rfl)) (by decide) (fun K hK => ?_)
                         refine Kd.R_append_rows_step (Kd.int .i64) (w0 := w) w.heap.size (by rfl) (.tmp 122) (.tmp 127) 22 3 (.int .i64 0) 8 rfl Try.underlying22 info3 rfl (by decide) (by omega) u191001 x191001_5 ((rd_T26 t187 x13_4).f1) _ _ _ (fun k_ => some k_ ≠ (.slice Ao118 y183.length co118 : Value).ownBlock) (fun _ => False) rfl rfl ?aO ?aR (fun _ _ h => h) (fun _ h => h.elim) ?aF ?aB ?aS ?aL ?_
                         (case aR => repeat (first | exact (by repeat (first | (with_reducible exact HR192_1.out) | (with_reducible refine Kd.C_alloc ?_ _) | (with_reducible refine Kd.C_drewN ?_ _) | (with_reducible refine Kd.C_drew ?_) | exact HR192_1.out)) | (with_reducible refine Kd.C_alloc ?_ _) | (with_reducible refine Kd.C_drewN ?_ _) | (with_reducible refine Kd.C_drew ?_)))
                         (case aB => exact (by repeat (first | (with_reducible first | exact HB.out | apply below_alloc | apply pw_below_drewN | apply below_drew1 | refine below_set ?_ GE168.out | refine below_set ?_ GE169.out | refine below_set ?_ GE170.out | refine below_set ?_ GE171.out | refine below_set ?_ GE190.out) | exact HB.out)))
                         (case aF => exact (fun k_ hk => Kd.fresh' (Kd.R_lt (RU HO_191000.out)) k_ hk))
                         (case aO => exact (RU HO_191001.out))
                         (case aS => exact (below_size (by repeat (first | (with_reducible first | exact HB.out | apply below_alloc | apply pw_below_drewN | apply below_drew1 | refine below_set ?_ GE168.out | refine below_set ?_ GE169.out | refine below_set ?_ GE170.out | refine below_set ?_ GE171.out | refine below_set ?_ GE190.out) | exact HB.out))))
                         (case aL => have := LMc136.out; omega)
                         intro v194 w139 ho hb hg hat
                         rw [← Ny193.out] at ho
                         have n0_ := Aside0.mk (Kd.S_after (ok := (fun k_ => some k_ ≠ (.slice Ao118 y183.length co118 : Value).ownBlock ∧ k_ ≠ gb168 ∧ k_ ≠ gb169 ∧ k_ ≠ gb170 ∧ k_ ≠ gb171 ∧ k_ ≠ gb190)) (by (with_reducible repeat (first | apply Kd.S_alloc | apply Kd.S_drewN | apply Kd.S_drew)); exact Kd.S_mono HO_11.out (fun _ hk => ⟨⟨hk.1, ⟨hk.2.2.1, ⟨hk.2.2.2.1, ⟨hk.2.2.2.2.1, ⟨hk.2.2.2.2.2.1, hk.2.2.2.2.2.2⟩⟩⟩⟩⟩, hk.2.1⟩)) hg hat)
                         have n1_ := Aside0.mk (Kd.R_after (ok := (fun _ => True)) (by (with_reducible repeat (first | apply Kd.R_alloc | apply Kd.R_drewN | apply Kd.R_drew)); exact Kd.R_mono HO_191000.out (fun _ hk => ⟨trivial, hk⟩)) hg hat)
                         have n2_ := Aside0.mk (blk_grown (g := gb168) (o := .cells #[.slice A0_0 l0_0.length c0_0, .slice (some ad191) l0_1.length c0_1] 26 (0, 0)) (kU BK168.out) hg (Kd.R_ne HO_191001.out BK168.out (by decide)))
                         have n3_ := Aside0.mk (blk_grown (g := gb169) (o := .cells #[.slice (some ad176) l1_0.length c1_0, .slice A1_1 l1_1.length c1_1] 26 (0, 0)) (kU BK169.out) hg (Kd.R_ne HO_191001.out BK169.out (by decide)))
                         have n4_ := Aside0.mk (blk_grown (g := gb170) (o := .cells #[.slice none 0 0, .slice none 0 0] 26 (0, 0)) (kU BK170.out) hg (Kd.R_ne HO_191001.out BK170.out (by decide)))
                         have n5_ := Aside0.mk (blk_grown (g := gb171) (o := .cells #[.slice none 0 0, .slice none 0 0] 26 (0, 0)) (kU BK171.out) hg (Kd.R_ne HO_191001.out BK171.out (by decide)))
                         have n6_ := Aside0.mk (blk_grown (g := gb190) (o := .cells #[.slice Ao118 y183.length co118, u191001] 26 (0, 0)) (kU BK190.out) hg (Kd.R_ne HO_191001.out BK190.out (by decide)))
                         have n7_ := Aside0.mk (Kd.R_after (ok := (fun k_ => some k_ ≠ (.slice (some ad192) t187.length co128 : Value).ownBlock ∧ some k_ ≠ (.slice Ao118 y183.length co118 : Value).ownBlock ∧ k_ ≠ gb168 ∧ k_ ≠ gb169 ∧ k_ ≠ gb170 ∧ k_ ≠ gb171 ∧ k_ ≠ gb190)) (by (with_reducible repeat (first | apply Kd.R_alloc | apply Kd.R_drewN | apply Kd.R_drew)); exact Kd.R_mono HL192_0.out (fun _ hk => ⟨⟨hk.2, ⟨hk.1.1, ⟨hk.1.2.2.1, ⟨hk.1.2.2.2.1, ⟨hk.1.2.2.2.2.1, ⟨hk.1.2.2.2.2.2.1, hk.1.2.2.2.2.2.2⟩⟩⟩⟩⟩⟩, hk.1.2.1⟩)) hg hat)
                         have n8_ := Aside0.mk (Kd.R_after (ok := (fun k_ => some k_ ≠ (.slice (some ad192) t187.length co128 : Value).ownBlock ∧ some k_ ≠ (.slice Ao118 y183.length co118 : Value).ownBlock ∧ k_ ≠ gb168 ∧ k_ ≠ gb169 ∧ k_ ≠ gb170 ∧ k_ ≠ gb171 ∧ k_ ≠ gb190)) (by (with_reducible repeat (first | apply Kd.R_alloc | apply Kd.R_drewN | apply Kd.R_drew)); exact Kd.R_mono HL192_1.out (fun _ hk => ⟨⟨hk.2, ⟨hk.1.1, ⟨hk.1.2.2.1, ⟨hk.1.2.2.2.1, ⟨hk.1.2.2.2.2.1, ⟨hk.1.2.2.2.2.2.1, hk.1.2.2.2.2.2.2⟩⟩⟩⟩⟩⟩, hk.1.2.1⟩)) hg hat)
                         have n9_ := Aside0.mk (hb)
                         have n10_ := Aside0.mk (ho)
                         clear HO_11 HO_191000 BK168 BK169 BK170 BK171 BK190 HL192_0 HL192_1 HB HO_191001
                         have HO_11 := n0_
                         have HO_191000 := n1_
                         have BK168 := n2_
                         have BK169 := n3_
                         have BK170 := n4_
                         have BK171 := n5_
                         have BK190 := n6_
                         have HL192_0 := n7_
                         have HL192_1 := n8_
                         have HB := n9_
                         have HO195 := n10_
                         clear n0_ n1_ n2_ n3_ n4_ n5_ n6_ n7_ n8_ n9_ n10_
                         clear ho hb hg hat
                         obtain ⟨Ao140, co140, eo140⟩ := Kd.R_slice HO195.out
                         (first | subst eo140 | (injection eo140 with f1_ f2_ f3_; have f4_ := f1_.symm; have f5_ := f3_.symm; clear f1_ f2_ f3_; subst f4_; subst f5_))
                         refine hK.out _ _ ?_
                         clear hK K
                         refine norm_ (a' := ?_) ?_ ?_
                         rotate_left
                         ·
                          show Act.put _ (some 128) _ = _
                          simp only [Act.put, List.setIfInBounds_toArray, List.set_cons_zero, List.set_cons_succ, i64_w, i32_w]
                          rfl
                         refine pure_ (i := 8) (N := some 129) (v := ?_) (a' := ?_) #[true, true, true, true, true, true, true, true, true, false] rfl rfl (any_of HT_.out (by kernel_rfl)) (fun _ _ _ h => h) (Or.inl ⟨by rfl, ?_⟩) ?_ ?_
                         rotate_left
                         ·
                          intro w'
                          go_simp
                          with_reducible rfl
                         rotate_left
                         ·
                          simp only [Act.put, List.setIfInBounds_toArray, List.set_cons_zero, List.set_cons_succ, i64_w, i32_w]
                          rfl
                         refine last_ (i := 9) (N := none) #[true, true, true, true, true, true, true, true, true, true] rfl rfl (one_of HT_.out (by kernel_rfl)) (by decide) (fun K hK => ?_)
                         have hs141 : w139.cell? ⟨gb190, 1, none⟩ = some (u191001) := (blk_cell BK190.out 1).trans rfl
                         have hfs141 := blk_frozen BK190.out 1
                         have hns141_0 := NB168_190.out
                         have hns141_1 := NB169_190.out
                         have hns141_2 := NB170_190.out
                         have hns141_3 := NB171_190.out
                         have hms141_0 := NB190_168.out
                         have hms141_1 := NB190_169.out
                         have hms141_2 := NB190_170.out
                         have hms141_3 := NB190_171.out
                         refine skip_ (w1 := ?_) (by rfl) rfl ?_ ?_
                         rotate_left
                         ·
                          go_simp
                          rfl
                         refine hK.out _ _ ?_
                         clear hK K
                         refine done_ (done_of HT_.out (by kernel_rfl)) ?_
                         try go_wp2
                         go_roundg k5
                         case measure => have := HJ2.out; have := HK2.out; have := HK3.out; have := HK4.out; have := HK5.out; omega
                         case rel => exact ⟨(wrap64 (x14_5 + 1)), (y193), (.slice Ao140 y193.length co140), (by first | rfl | (simp; done) | (simp [*]; done)), H', ⟨by have := HJ2.out; have := HK2.out; have := HK3.out; have := HK4.out; have := HK5.out; omega⟩, ⟨by (with_reducible repeat (first | apply Kd.S_alloc | apply Kd.S_drewN | apply Kd.S_drew)); exact Kd.S_mono (Kd.S_far (p := ⟨gb190, 1, none⟩) (Kd.S_mono HO_11.out (fun k_ hk => (⟨hk, hk.1.2.2.2.2.2⟩ : _ ∧ k_ ≠ gb190))) (fun _ hk => hk.2) (.slice Ao140 y193.length co140)) (fun _ hk => ⟨hk.1.1.1, ⟨hk.1.2, ⟨hk.1.1.2.1, ⟨hk.1.1.2.2.1, ⟨hk.1.1.2.2.2.1, ⟨hk.1.1.2.2.2.2.1, hk.1.1.2.2.2.2.2⟩⟩⟩⟩⟩⟩)⟩, ⟨by (with_reducible repeat (first | apply Kd.R_alloc | apply Kd.R_drewN | apply Kd.R_drew)); exact Kd.R_mono (Kd.R_far (p := ⟨gb190, 1, none⟩) (Kd.R_types HO_191000.out BK190.out (by decide)) (fun _ hk => hk.2) (.slice Ao140 y193.length co140)) (fun _ hk => hk.1.2)⟩, ⟨by (with_reducible repeat (first | apply Kd.R_alloc | apply Kd.R_drewN | apply Kd.R_drew)); exact Kd.R_mono (Kd.R_far (p := ⟨gb190, 1, none⟩) (Kd.R_types HO195.out BK190.out (by decide)) (fun _ hk => hk.2) (.slice Ao140 y193.length co140)) (fun _ hk => hk.1)⟩, ⟨by (with_reducible repeat (first | refine blk_drewN ?_ _ | refine blk_drew ?_ | refine blk_alloc ?_ _)); refine blk_far ?_ NB168_190.out _; (with_reducible repeat (first | refine blk_drewN ?_ _ | refine blk_drew ?_ | refine blk_alloc ?_ _)); exact BK168.out⟩, ⟨by (with_reducible repeat (first | refine blk_drewN ?_ _ | refine blk_drew ?_ | refine blk_alloc ?_ _)); refine blk_far ?_ NB169_190.out _; (with_reducible repeat (first | refine blk_drewN ?_ _ | refine blk_drew ?_ | refine blk_alloc ?_ _)); exact BK169.out⟩, ⟨by (with_reducible repeat (first | refine blk_drewN ?_ _ | refine blk_drew ?_ | refine blk_alloc ?_ _)); refine blk_far ?_ NB170_190.out _; (with_reducible repeat (first | refine blk_drewN ?_ _ | refine blk_drew ?_ | refine blk_alloc ?_ _)); exact BK170.out⟩, ⟨by (with_reducible repeat (first | refine blk_drewN ?_ _ | refine blk_drew ?_ | refine blk_alloc ?_ _)); refine blk_far ?_ NB171_190.out _; (with_reducible repeat (first | refine blk_drewN ?_ _ | refine blk_drew ?_ | refine blk_alloc ?_ _)); exact BK171.out⟩, ⟨by (with_reducible repeat (first | refine blk_drewN ?_ _ | refine blk_drew ?_ | refine blk_alloc ?_ _)); refine blk_put (cs := #[.slice Ao118 y183.length co118, u191001]) ?_ 1 _ rfl; (with_reducible repeat (first | refine blk_drewN ?_ _ | refine blk_drew ?_ | refine blk_alloc ?_ _)); exact BK190.out⟩, ⟨by repeat (first | (with_reducible first | exact HB.out | apply below_alloc | apply pw_below_drewN | apply below_drew1 | refine below_set ?_ GE168.out | refine below_set ?_ GE169.out | refine below_set ?_ GE170.out | refine below_set ?_ GE171.out | refine below_set ?_ GE190.out) | exact HB.out)⟩⟩
                        ·
                         rw [if_neg c136] at H
                         exact absurd H (by simp)
                       ·
                        rw [if_neg c135] at H
                        exact absurd H (by simp)
                      ·
                       rw [if_neg c134] at H
                       exact absurd H (by simp)
                     ·
                      rw [if_neg c133] at H
                      have c133b0 : decide (x14_5 < (rd l0_1 (ji130))) = false := decide_eq_false c133
                      clear c133
                      have H' := Aside0.mk H
                      clear H
                      try go_wp2
                      replace HO_11 := Aside0.mk (Kd.S_drew HO_11.out)
                      replace HO_191000 := Aside0.mk (Kd.R_drew HO_191000.out)
                      replace HO_191001 := Aside0.mk (Kd.R_drew HO_191001.out)
                      replace BK168 := Aside0.mk (blk_drew BK168.out)
                      replace BK169 := Aside0.mk (blk_drew BK169.out)
                      replace BK170 := Aside0.mk (blk_drew BK170.out)
                      replace BK171 := Aside0.mk (blk_drew BK171.out)
                      replace BK190 := Aside0.mk (blk_drew BK190.out)
                      replace HB := Aside0.mk (below_drew1 HB.out)
                      have p191 : 0 ≤ ((ji130) : Int) := of_decide_eq_true (by first | (with_reducible assumption) | assumption)
                      have q191 : (ji130) < (l0_1.length : Int) := of_decide_eq_true (by first | (with_reducible assumption) | assumption)
                      obtain ⟨ad191, e191, hx191_0⟩ := Kd.at_int HR0_1.out (ji130) p191 q191
                      have hw191_0 := hx191_0
                      cases e191
                      replace hx191_0 := (HB.out.cell (World.block_lt_of_cell? w _ hx191_0)).trans hx191_0
                      replace p191 := eq_true p191
                      replace q191 := eq_true q191
                      refine start_ (n := 11) (S := fun w' => w'.cell? ⟨gb168, 0, none⟩ = some (.slice A0_0 l0_0.length c0_0) ∧ w'.cell? ⟨gb168, 1, none⟩ = some (.slice (some ad191) l0_1.length c0_1) ∧ w'.cell? (ad191.add ((ji130)).toNat) = some (.int .i64 (rd l0_1 (ji130)))) (ds := []) #[false, false, false, false, false, false, false, false, false, false, false] (by kernel_rfl) rfl rfl ⟨(blk_cell BK168.out 0).trans rfl, (blk_cell BK168.out 1).trans rfl, ((HB.out.cell (World.block_lt_of_cell? w _ hw191_0)).trans hw191_0)⟩ (fun hHeld => ?_); refine with_tabW spec_Copy.tab27 spec_Copy.bits27 (fun HT_ HW_ => ?_)
                      generalize wr.drew = w142 at HO_11 HO_191000 HO_191001 BK168 BK169 BK170 BK171 BK190 HB hx191_0 hHeld ⊢
                      refine pure_ (i := 0) (N := some 108) (v := ?_) (a' := ?_) #[true, false, false, false, false, false, false, false, false, false, false] rfl rfl (any_of HT_.out (by kernel_rfl)) (fun _ _ _ h => h) (Or.inl ⟨by rfl, ?_⟩) ?_ ?_
                      rotate_left
                      ·
                       intro w'
                       go_simp
                       with_reducible rfl
                      rotate_left
                      ·
                       simp only [Act.put, List.setIfInBounds_toArray, List.set_cons_zero, List.set_cons_succ, i64_w, i32_w]
                       rfl
                      refine pure_ (i := 1) (N := some 109) (v := ?_) (a' := ?_) #[true, true, false, false, false, false, false, false, false, false, false] rfl rfl (any_of HT_.out (by kernel_rfl)) (fun _ _ _ h => h) (Or.inl ⟨by rfl, ?_⟩) ?_ ?_
                      rotate_left
                      ·
                       intro w'
                       go_simp
                       with_reducible rfl
                      rotate_left
                      ·
                       simp only [Act.put, List.setIfInBounds_toArray, List.set_cons_zero, List.set_cons_succ, i64_w, i32_w]
                       rfl
                      refine pure_ (i := 3) (N := some 111) (v := ?_) (a' := ?_) #[true, true, false, true, false, false, false, false, false, false, false] rfl rfl (any_of HT_.out (by kernel_rfl)) (fun _ _ _ h => h) (Or.inl ⟨by rfl, ?_⟩) ?_ ?_
                      rotate_left
                      ·
                       intro w'
                       go_simp
                       with_reducible rfl
                      rotate_left
                      ·
                       simp only [Act.put, List.setIfInBounds_toArray, List.set_cons_zero, List.set_cons_succ, i64_w, i32_w]
                       rfl
                      refine pure_ (i := 4) (N := some 112) (v := ?_) (a' := ?_) #[true, true, false, true, true, false, false, false, false, false, false] rfl rfl (any_of HT_.out (by kernel_rfl)) (fun _ _ _ h => h) (Or.inl ⟨by rfl, ?_⟩) ?_ ?_
                      rotate_left
                      ·
                       intro w'
                       go_simp
                       with_reducible rfl
                      rotate_left
                      ·
                       simp only [Act.put, List.setIfInBounds_toArray, List.set_cons_zero, List.set_cons_succ, i64_w, i32_w]
                       rfl
                      refine take_ (i := 2) (N := some 110) (v := ?_) (a' := ?_) #[true, true, true, true, true, false, false, false, false, false, false] rfl rfl (take_ofW HT_.out HW_.out (by kernel_rfl)) (fun _ _ _ h => h) (Or.inl ⟨by rfl, ?_⟩) hHeld ?_ ?_
                      rotate_left
                      ·
                       rintro w' ⟨s0, s1, s2⟩
                       go_simp
                       with_reducible rfl
                      rotate_left
                      ·
                       simp only [Act.put, List.setIfInBounds_toArray, List.set_cons_zero, List.set_cons_succ, i64_w, i32_w]
                       rfl
                      refine take_ (i := 5) (N := some 113) (v := ?_) (a' := ?_) #[true, true, true, true, true, true, false, false, false, false, false] rfl rfl (take_ofW HT_.out HW_.out (by kernel_rfl)) (fun _ _ _ h => h) (Or.inl ⟨by rfl, ?_⟩) hHeld ?_ ?_
                      rotate_left
                      ·
                       rintro w' ⟨s0, s1, s2⟩
                       go_simp
                       with_reducible rfl
                      rotate_left
                      ·
                       simp only [Act.put, List.setIfInBounds_toArray, List.set_cons_zero, List.set_cons_succ, i64_w, i32_w]
                       rfl
                      refine pure_ (i := 6) (N := some 114) (v := ?_) (a' := ?_) #[true, true, true, true, true, true, true, false, false, false, false] rfl rfl (any_of HT_.out (by kernel_rfl)) (fun _ _ _ h => h) (Or.inl ⟨by rfl, ?_⟩) ?_ ?_
                      rotate_left
                      ·
                       intro w'
                       go_simp
                       with_reducible rfl
                      rotate_left
                      ·
                       simp only [Act.put, List.setIfInBounds_toArray, List.set_cons_zero, List.set_cons_succ, i64_w, i32_w]
                       rfl
                      refine pure_ (i := 7) (N := some 115) (v := ?_) (a' := ?_) #[true, true, true, true, true, true, true, true, false, false, false] rfl rfl (any_of HT_.out (by kernel_rfl)) (fun _ _ _ h => h) (Or.inl ⟨by rfl, ?_⟩) ?_ ?_
                      rotate_left
                      ·
                       intro w'
                       go_simp
                       with_reducible rfl
                      rotate_left
                      ·
                       simp only [Act.put, List.setIfInBounds_toArray, List.set_cons_zero, List.set_cons_succ, i64_w, i32_w]
                       rfl
                      refine pure_ (i := 8) (N := some 116) (v := ?_) (a' := ?_) #[true, true, true, true, true, true, true, true, true, false, false] rfl rfl (any_of HT_.out (by kernel_rfl)) (fun _ _ _ h => h) (Or.inl ⟨by rfl, ?_⟩) ?_ ?_
                      rotate_left
                      ·
                       intro w'
                       go_simp
                       with_reducible rfl
                      rotate_left
                      ·
                       simp only [Act.put, List.setIfInBounds_toArray, List.set_cons_zero, List.set_cons_succ, i64_w, i32_w]
                       rfl
                      refine take_ (i := 9) (N := some 117) (v := ?_) (a' := ?_) #[true, true, true, true, true, true, true, true, true, true, false] rfl rfl (take_ofW HT_.out HW_.out (by kernel_rfl)) (fun _ _ _ h => h) (Or.inl ⟨by rfl, ?_⟩) hHeld ?_ ?_
                      rotate_left
                      ·
                       rintro w' ⟨s0, s1, s2⟩
                       go_simp
                       with_reducible rfl
                      rotate_left
                      ·
                       simp only [Act.put, List.setIfInBounds_toArray, List.set_cons_zero, List.set_cons_succ, i64_w, i32_w]
                       rfl
                      refine pure_ (i := 10) (N := some 118) (v := ?_) (a' := ?_) #[true, true, true, true, true, true, true, true, true, true, true] rfl rfl (any_of HT_.out (by kernel_rfl)) (fun _ _ _ h => h) (Or.inl ⟨by rfl, ?_⟩) ?_ ?_
                      rotate_left
                      ·
                       intro w'
                       go_simp
                       with_reducible rfl
                      rotate_left
                      ·
                       simp only [Act.put, List.setIfInBounds_toArray, List.set_cons_zero, List.set_cons_succ, i64_w, i32_w]
                       rfl
                      refine done_ (done_of HT_.out (by kernel_rfl)) ?_
                      try go_wp2
                      go_roundg k5
                      case measure => have := HJ2.out; have := HK2.out; have := HK3.out; have := HK4.out; have := HK5.out; omega
                      case rel => exact ⟨(wrap64 (x13_4 + 1)), (x191001_5), (u191001), (by first | rfl | (simp; done) | (simp [*]; done)), H', ⟨by have := HJ2.out; have := HK2.out; have := HK3.out; have := HK4.out; have := HK5.out; omega⟩, ⟨by (with_reducible repeat (first | apply Kd.S_alloc | apply Kd.S_drewN | apply Kd.S_drew)); exact HO_11.out⟩, ⟨by (with_reducible repeat (first | apply Kd.R_alloc | apply Kd.R_drewN | apply Kd.R_drew)); exact HO_191000.out⟩, ⟨by (with_reducible repeat (first | apply Kd.R_alloc | apply Kd.R_drewN | apply Kd.R_drew)); exact HO_191001.out⟩, ⟨by (with_reducible repeat (first | refine blk_drewN ?_ _ | refine blk_drew ?_ | refine blk_alloc ?_ _)); exact BK168.out⟩, ⟨by (with_reducible repeat (first | refine blk_drewN ?_ _ | refine blk_drew ?_ | refine blk_alloc ?_ _)); exact BK169.out⟩, ⟨by (with_reducible repeat (first | refine blk_drewN ?_ _ | refine blk_drew ?_ | refine blk_alloc ?_ _)); exact BK170.out⟩, ⟨by (with_reducible repeat (first | refine blk_drewN ?_ _ | refine blk_drew ?_ | refine blk_alloc ?_ _)); exact BK171.out⟩, ⟨by (with_reducible repeat (first | refine blk_drewN ?_ _ | refine blk_drew ?_ | refine blk_alloc ?_ _)); exact BK190.out⟩, ⟨by repeat (first | (with_reducible first | exact HB.out | apply below_alloc | apply pw_below_drewN | apply below_drew1 | refine below_set ?_ GE168.out | refine below_set ?_ GE169.out | refine below_set ?_ GE170.out | refine below_set ?_ GE171.out | refine below_set ?_ GE190.out) | exact HB.out)⟩⟩
                    ·
                     rw [if_neg c132] at H
                     exact absurd H (by simp)
                   ·
                    rw [if_neg c131] at H
                    exact absurd H (by simp)
               ·
                rw [if_neg c127] at H
                have c127b0 : decide (x13_4 < (t187.length : Int)) = false := decide_eq_false c127
                clear c127
                simp only [Option.some.injEq, Prod.mk.injEq] at H
                obtain ⟨rfl, rfl, rfl⟩ := H
                obtain ⟨Ao143, co143, eo143⟩ := Kd.S_slice HO_11.out
                subst eo143
                have hnb144 := NB190_168.out
                have hnc144 := NB168_190.out
                have hnb145 := NB190_169.out
                have hnc145 := NB169_190.out
                have hnb146 := NB190_170.out
                have hnc146 := NB170_190.out
                have hnb147 := NB190_171.out
                have hnc147 := NB171_190.out
                have hcz148_0 : wr.cell? ⟨gb190, 0, none⟩ = some (.slice Ao118 y183.length co118) := (blk_cell BK190.out 0).trans rfl
                have hcz148_1 : wr.cell? ⟨gb190, 1, none⟩ = some (u191001) := (blk_cell BK190.out 1).trans rfl
                have hfz148_0 := blk_frozen BK190.out 0
                have hfz148_1 := blk_frozen BK190.out 1
                have hnb149 := NB170_168.out
                have hnc149 := NB168_170.out
                have hnb150 := NB170_169.out
                have hnc150 := NB169_170.out
                have hnb151 := NB170_171.out
                have hnc151 := NB171_170.out
                have hcz152_0 : wr.cell? ⟨gb170, 0, none⟩ = some (.slice none 0 0) := (blk_cell BK170.out 0).trans rfl
                have hcz152_1 : wr.cell? ⟨gb170, 1, none⟩ = some (.slice none 0 0) := (blk_cell BK170.out 1).trans rfl
                have hfz152_0 := blk_frozen BK170.out 0
                have hfz152_1 := blk_frozen BK170.out 1
                obtain ⟨Ao153, co153, eo153⟩ := Kd.R_slice HO_191001.out
                subst eo153
                go_wp2
                refine bodyPost_ret (results_ct rfl _ _ gb170 26 #[.slice Ao118 y183.length co118, .slice Ao153 x191001_4.length co153] (0, 0) _ rfl (by (with_reducible repeat (first | refine blk_drewN ?_ _ | refine blk_drew ?_ | refine blk_alloc ?_ _)); refine blk_put (cs := #[.slice Ao118 y183.length co118, .slice none 0 0]) ?_ 1 _ rfl; (with_reducible repeat (first | refine blk_drewN ?_ _ | refine blk_drew ?_ | refine blk_alloc ?_ _)); refine blk_put (cs := #[.slice none 0 0, .slice none 0 0]) ?_ 0 _ rfl; (with_reducible repeat (first | refine blk_drewN ?_ _ | refine blk_drew ?_ | refine blk_alloc ?_ _)); exact BK170.out) Try.underlying26 rfl (by kernel_rfl)) rfl ?_
                exact ⟨_, _, by first | rfl | (simp [errW_none, errW_some] <;> rfl) | (simp [*, errW_none, errW_some] <;> rfl), by (with_reducible repeat (first | apply Kd.R_alloc | apply Kd.R_drewN | apply Kd.R_drew)); exact Kd.R_mono (Kd.R_far (p := ⟨gb170, 1, none⟩) (Kd.R_far (p := ⟨gb170, 0, none⟩) (Kd.R_types HO_191000.out BK170.out (by decide)) (fun _ hk => hk.2) (.slice Ao118 y183.length co118)) (fun _ hk => hk.2) (.slice Ao153 x191001_4.length co153)) (fun _ hk => hk.1), by (with_reducible repeat (first | apply Kd.R_alloc | apply Kd.R_drewN | apply Kd.R_drew)); exact Kd.R_mono (Kd.R_far (p := ⟨gb170, 1, none⟩) (Kd.R_far (p := ⟨gb170, 0, none⟩) (Kd.R_types HO_191001.out BK170.out (by decide)) (fun _ hk => hk.2) (.slice Ao118 y183.length co118)) (fun _ hk => hk.2) (.slice Ao153 x191001_4.length co153)) (fun _ hk => hk.1), by repeat (first | (with_reducible first | exact HB.out | apply below_alloc | apply pw_below_drewN | apply below_drew1 | refine below_set ?_ GE168.out | refine below_set ?_ GE169.out | refine below_set ?_ GE170.out | refine below_set ?_ GE171.out | refine below_set ?_ GE190.out) | exact HB.out)⟩
            ·
             replace c107 := Bool.eq_false_iff.mpr c107
             subst c107
             have H1 : (some (([] : List Int), ([] : List Int), 6)) = some (r1, r2, r3) := by rw [if_neg (show ¬ (false = true) by decide)] at H; exact H
             clear H
             have H := H1
             clear H1
             simp only [Option.some.injEq, Prod.mk.injEq] at H
             obtain ⟨rfl, rfl, rfl⟩ := H
             have hnb154 := NB169_168.out
             have hnc154 := NB168_169.out
             have hnb155 := NB169_170.out
             have hnc155 := NB170_169.out
             have hnb156 := NB169_171.out
             have hnc156 := NB171_169.out
             have hcz157_0 : wr.cell? ⟨gb169, 0, none⟩ = some (.slice A1_0 l1_0.length c1_0) := (blk_cell BK169.out 0).trans rfl
             have hcz157_1 : wr.cell? ⟨gb169, 1, none⟩ = some (.slice A1_1 l1_1.length c1_1) := (blk_cell BK169.out 1).trans rfl
             have hfz157_0 := blk_frozen BK169.out 0
             have hfz157_1 := blk_frozen BK169.out 1
             have p176 : 0 ≤ (0 : Int) := (by omega)
             have q176 : 0 < (l1_0.length : Int) := of_decide_eq_true (by first | (with_reducible assumption) | assumption)
             obtain ⟨ad176, e176, hx176_0⟩ := Kd.at_int HR1_0.out 0 p176 q176
             cases e176
             have qi176 : (0 < l1_0.length) = True := eq_true (by omega)
             (try rw [show ((0 : Int)).toNat = 0 from rfl] at hx176_0)
             (try rw [Addr.add_zero'] at hx176_0)
             replace hx176_0 := (HB.out.cell (World.block_lt_of_cell? w _ hx176_0)).trans hx176_0
             replace p176 := eq_true p176
             replace q176 := eq_true q176
             try go_wp2
             replace BK168 := Aside0.mk (blk_drew BK168.out)
             replace BK169 := Aside0.mk (blk_drew BK169.out)
             replace BK170 := Aside0.mk (blk_drew BK170.out)
             replace BK171 := Aside0.mk (blk_drew BK171.out)
             replace HB := Aside0.mk (below_drew1 HB.out)
             obtain ⟨i0159, hi0159, _, hsz159, _⟩ := info_parts info3
             (try clear hcut114)
             obtain ⟨A159, hcut159, hA159, hC159⟩ := print_drop_of (P := Try.prog) (Value.int .i64) 0 22 3 .i64 Try.underlying22 hi0159 hsz159 (some ad176) c1_0 l1_0 1 (by omega) (of_decide_eq_true (by first | (with_reducible assumption) | assumption)) HC1_0.out
             have HR182 := Aside0.mk (Kd.C_of_reads (h1 := fun _ => rfl) (hA159 _ (Kd.reads_of_C HR1_0.out)))
             have HC182 := Aside0.mk hC159
             clear hA159 hC159 hi0159 hsz159
             refine start_ (n := 8) (S := fun w' => w'.cell? ⟨gb169, 0, none⟩ = some (.slice (some ad176) l1_0.length c1_0) ∧ w'.cell? ⟨gb169, 1, none⟩ = some (.slice A1_1 l1_1.length c1_1)) (ds := []) #[false, false, false, false, false, false, false, false] (by kernel_rfl) rfl rfl ⟨(blk_cell BK169.out 0).trans rfl, (blk_cell BK169.out 1).trans rfl⟩ (fun hHeld => ?_); refine with_tabW spec_Copy.tab18 spec_Copy.bits18 (fun HT_ HW_ => ?_)
             generalize wr.drew = w158 at BK168 BK169 BK170 BK171 HB HR182 hHeld ⊢
             refine pure_ (i := 0) (N := some 87) (v := ?_) (a' := ?_) #[true, false, false, false, false, false, false, false] rfl rfl (any_of HT_.out (by kernel_rfl)) (fun _ _ _ h => h) (Or.inl ⟨by rfl, ?_⟩) ?_ ?_
             rotate_left
             ·
              intro w'
              go_simp
              with_reducible rfl
             rotate_left
             ·
              simp only [Act.put, List.setIfInBounds_toArray, List.set_cons_zero, List.set_cons_succ, i64_w, i32_w]
              rfl
             refine pure_ (i := 3) (N := some 90) (v := ?_) (a' := ?_) #[true, false, false, true, false, false, false, false] rfl rfl (any_of HT_.out (by kernel_rfl)) (fun _ _ _ h => h) (Or.inl ⟨by rfl, ?_⟩) ?_ ?_
             rotate_left
             ·
              intro w'
              go_simp
              with_reducible rfl
             rotate_left
             ·
              simp only [Act.put, List.setIfInBounds_toArray, List.set_cons_zero, List.set_cons_succ, i64_w, i32_w]
              rfl
             refine take_ (i := 4) (N := some 91) (v := ?_) (a' := ?_) #[true, false, false, true, true, false, false, false] rfl rfl (take_ofW HT_.out HW_.out (by kernel_rfl)) (fun _ _ _ h => h) (Or.inl ⟨by rfl, ?_⟩) hHeld ?_ ?_
             rotate_left
             ·
              rintro w' ⟨s0, s1⟩
              go_simp
              with_reducible rfl
             rotate_left
             ·
              simp only [Act.put, List.setIfInBounds_toArray, List.set_cons_zero, List.set_cons_succ, i64_w, i32_w]
              rfl
             refine pure_ (i := 5) (N := some 92) (v := ?_) (a' := ?_) #[true, false, false, true, true, true, false, false] rfl rfl (any_of HT_.out (by kernel_rfl)) (fun _ _ _ h => h) (Or.inl ⟨by rfl, ?_⟩) ?_ ?_
             rotate_left
             ·
              intro w'
              go_simp
              with_reducible rfl
             rotate_left
             ·
              simp only [Act.put, List.setIfInBounds_toArray, List.set_cons_zero, List.set_cons_succ, i64_w, i32_w]
              rfl
             refine one_ (i := 1) (N := some 88) #[true, true, false, true, true, true, false, false] rfl rfl (one_of HT_.out (by kernel_rfl)) (by decide) (fun K hK => ?_)
             refine goes_ Try.func91 (by kernel_rfl) rfl #[.int .i64 x7_3, .int .i64 301] (by rfl) rfl rfl (by (try simp only [List.map_toArray, List.map_cons, List.map_nil]); first | done | rfl | (simp only [List.length_drop, List.length_take]; rfl)) ?_
             with_reducible refine (spec_l1Min.calls x7_3 301 t178 _ A103.out).mono ?_
             rintro e w' ⟨rfl, ⟨nd, rfl⟩⟩
             refine ⟨_, rfl, ?_⟩
             refine hK.out _ _ ⟨(blk_cell BK169.out 0).trans rfl, (blk_cell BK169.out 1).trans rfl⟩ (fun hHeld => ?_)
             clear hK K
             refine norm_ (a' := ?_) ?_ ?_
             rotate_left
             ·
              show Act.put _ (some 88) _ = _
              simp only [Act.put, List.setIfInBounds_toArray, List.set_cons_zero, List.set_cons_succ, i64_w, i32_w]
              rfl
             refine one_ (i := 2) (N := some 89) #[true, true, true, true, true, true, false, false] rfl rfl (one_of HT_.out (by kernel_rfl)) (by decide) (fun K hK => ?_)
             refine Kd.R_lit_step (Kd.int .i64) _ 3 ?hg (N := 89) ?hd (xs := ([t178] : List Int)) (inner := [.int .i64 t178]) (ok := fun _ => True) (okp := fun _ => True) ?hr ?hp (fun _ hk => hk) trivial (Below.refl _ _) (Nat.le_refl _) (by simp) ?_; (case hd => rfl); (case hg => rfl); (case hr => first | (go_simp; done) | (go_simp; rfl)); (case hp => exact (Reps.one (show Kd.M (Kd.int .i64) _ _ _ t178 [.int .i64 t178] from rfl) (Reps.none _ _)))
             intro v180 w160 ho161 hb hg_ hnew_
             clear hg_ hnew_
             (first | rw [← Ny179.out] at ho161 | (simp only [Int.reduceToNat] at ho161; rw [← Ny179.out] at ho161))
             have HO181 := Aside0.mk (Kd.R_lower ho161 (below_size (bS4 HB.out GE168.out GE169.out GE170.out GE171.out)))
             replace BK168 := Aside0.mk (blk_below (g := gb168) (o := .cells #[.slice A0_0 l0_0.length c0_0, .slice A0_1 l0_1.length c0_1] 26 (0, 0)) (kU BK168.out) hb)
             replace BK169 := Aside0.mk (blk_below (g := gb169) (o := .cells #[.slice (some ad176) l1_0.length c1_0, .slice A1_1 l1_1.length c1_1] 26 (0, 0)) (kU BK169.out) hb)
             replace BK170 := Aside0.mk (blk_below (g := gb170) (o := .cells #[.slice none 0 0, .slice none 0 0] 26 (0, 0)) (kU BK170.out) hb)
             replace BK171 := Aside0.mk (blk_below (g := gb171) (o := .cells #[.slice none 0 0, .slice none 0 0] 26 (0, 0)) (kU BK171.out) hb)
             replace HB := Aside0.mk (below_step (bS4 HB.out GE168.out GE169.out GE170.out GE171.out) hb)
             clear hb ho161
             refine hK.out _ _ ⟨(blk_cell BK169.out 0).trans rfl, (blk_cell BK169.out 1).trans rfl⟩ (fun hHeld => ?_)
             clear hK K
             refine norm_ (a' := ?_) ?_ ?_
             rotate_left
             ·
              show Act.put _ (some 89) _ = _
              simp only [Act.put, List.setIfInBounds_toArray, List.set_cons_zero, List.set_cons_succ, i64_w, i32_w]
              rfl
             refine one_ (i := 6) (N := some 93) #[true, true, true, true, true, true, true, false] rfl rfl (one_of HT_.out (by kernel_rfl)) (by decide) (fun K hK => ?_)
             refine Kd.R_append_rows_step (Kd.int .i64) (w0 := w) w.heap.size (by rfl) (.tmp 89) (.tmp 92) 22 3 (.int .i64 0) 8 rfl Try.underlying22 info3 rfl (by decide) (by omega) v180 y179 (l1_0.drop 1) _ _ _ (fun _ => True) (fun _ => False) rfl rfl ?aO ?aR (fun _ _ h => h) (fun _ h => h.elim) ?aF ?aB ?aS ?aL ?_
             (case aR => first | (rw [← show (l1_0.drop 1).length = (l1_0.length - 1) from List.length_drop]; exact cU (Kd.C_below HR182.out HB.out)) | (exact cU (Kd.C_below HR182.out HB.out)))
             (case aB => exact (bS4 HB.out GE168.out GE169.out GE170.out GE171.out))
             (case aF => exact (fun _ _ => trivial))
             (case aO => exact (RU HO181.out))
             (case aS => exact (below_size (bS4 HB.out GE168.out GE169.out GE170.out GE171.out)))
             (case aL => have := LMc105.out; have hlx_ := (show (l1_0.drop 1).length = (l1_0.length - 1) from List.length_drop); omega)
             intro v184 w162 ho hb hg hat
             rw [← Ny183.out] at ho
             have n0_ := Aside0.mk (blk_grown (g := gb168) (o := .cells #[.slice A0_0 l0_0.length c0_0, .slice A0_1 l0_1.length c0_1] 26 (0, 0)) (kU BK168.out) hg (Kd.R_ne HO181.out BK168.out (by decide)))
             have n1_ := Aside0.mk (blk_grown (g := gb169) (o := .cells #[.slice (some ad176) l1_0.length c1_0, .slice A1_1 l1_1.length c1_1] 26 (0, 0)) (kU BK169.out) hg (Kd.R_ne HO181.out BK169.out (by decide)))
             have n2_ := Aside0.mk (blk_grown (g := gb170) (o := .cells #[.slice none 0 0, .slice none 0 0] 26 (0, 0)) (kU BK170.out) hg (Kd.R_ne HO181.out BK170.out (by decide)))
             have n3_ := Aside0.mk (blk_grown (g := gb171) (o := .cells #[.slice none 0 0, .slice none 0 0] 26 (0, 0)) (kU BK171.out) hg (Kd.R_ne HO181.out BK171.out (by decide)))
             have n4_ := Aside0.mk (hb)
             have n5_ := Aside0.mk (ho)
             clear BK168 BK169 BK170 BK171 HB HO181
             have BK168 := n0_
             have BK169 := n1_
             have BK170 := n2_
             have BK171 := n3_
             have HB := n4_
             have HO185 := n5_
             clear n0_ n1_ n2_ n3_ n4_ n5_
             clear ho hb hg hat
             refine hK.out _ _ ⟨(blk_cell BK169.out 0).trans rfl, (blk_cell BK169.out 1).trans rfl⟩ (fun hHeld => ?_)
             clear hK K
             refine norm_ (a' := ?_) ?_ ?_
             rotate_left
             ·
              show Act.put _ (some 93) _ = _
              simp only [Act.put, List.setIfInBounds_toArray, List.set_cons_zero, List.set_cons_succ, i64_w, i32_w]
              rfl
             refine pure_ (i := 7) (N := some 10) (v := ?_) (a' := ?_) #[true, true, true, true, true, true, true, true] rfl rfl (any_of HT_.out (by kernel_rfl)) (fun _ _ _ h => h) (Or.inl ⟨by rfl, ?_⟩) ?_ ?_
             rotate_left
             ·
              intro w'
              go_simp
              with_reducible rfl
             rotate_left
             ·
              simp only [Act.put, List.setIfInBounds_toArray, List.set_cons_zero, List.set_cons_succ, i64_w, i32_w]
              rfl
             refine done_ (done_of HT_.out (by kernel_rfl)) ?_
             obtain ⟨Ao163, co163, eo163⟩ := Kd.R_slice HO185.out
             subst eo163
             try go_wp2_with (first | ((with_reducible refine gate_callee (f := 92) rfl ?_); refine goesL_ (some 95) rfl rfl Try.func92 (by kernel_rfl) rfl #[.slice Ao163 y183.length co163] rfl (by (try simp only [List.map_toArray, List.map_cons, List.map_nil]); first | done | rfl | (simp only [List.length_drop, List.length_take]; rfl)) ?_; (with_reducible refine (spec_ShapeOk.calls k3 _ _ y183 false _ ?side1 ?side2 A106.out).mono ?_); (case side1 => exact cU (Kd.R_reads' HO185.out).2.2); (case side2 => exact (Kd.R_reads' HO185.out).2.1); rintro e w' ⟨rfl, ⟨nd, rfl⟩⟩; refine ⟨_, rfl, ?_⟩; (try (rw [drewN_self w162]; generalize hq_ : World.drewN w162 _ = w162; have n0_ : Aside0 (Kd.R (Kd.int .i64) 3 w162 w.heap.size (fun _ => True) (.slice Ao163 y183.length co163) y183) := ⟨by rw [← hq_]; exact (RU HO185.out)⟩; have n1_ : Aside0 (w162.heap[gb168]? = some (.cells #[.slice A0_0 l0_0.length c0_0, .slice A0_1 l0_1.length c0_1] 26 (0, 0))) := ⟨by rw [← hq_]; exact (kU BK168.out)⟩; have n2_ : Aside0 (w162.heap[gb169]? = some (.cells #[.slice (some ad176) l1_0.length c1_0, .slice A1_1 l1_1.length c1_1] 26 (0, 0))) := ⟨by rw [← hq_]; exact (kU BK169.out)⟩; have n3_ : Aside0 (w162.heap[gb170]? = some (.cells #[.slice none 0 0, .slice none 0 0] 26 (0, 0))) := ⟨by rw [← hq_]; exact (kU BK170.out)⟩; have n4_ : Aside0 (w162.heap[gb171]? = some (.cells #[.slice none 0 0, .slice none 0 0] 26 (0, 0))) := ⟨by rw [← hq_]; exact (kU BK171.out)⟩; have n5_ : Aside0 (Below w.heap.size w w162) := ⟨by rw [← hq_]; exact (bS4 HB.out GE168.out GE169.out GE170.out GE171.out)⟩; clear HO185 BK168 BK169 BK170 BK171 HB hq_; have HO185 := n0_; have BK168 := n1_; have BK169 := n2_; have BK170 := n3_; have BK171 := n4_; have HB := n5_; clear n0_ n1_ n2_ n3_ n4_ n5_)); have hnb164 := NB171_168.out; have hnc164 := NB168_171.out; have hnb165 := NB171_170.out; have hnc165 := NB170_171.out; have hcz166_0 : w162.cell? ⟨gb171, 0, none⟩ = some (.slice none 0 0) := (blk_cell BK171.out 0).trans rfl; have hcz166_1 : w162.cell? ⟨gb171, 1, none⟩ = some (.slice none 0 0) := (blk_cell BK171.out 1).trans rfl; have hfz166_0 := blk_frozen BK171.out 0; have hfz166_1 := blk_frozen BK171.out 1; have hnb167 := NB170_168.out; have hnc167 := NB168_170.out; have hcz168_0 : w162.cell? ⟨gb170, 0, none⟩ = some (.slice none 0 0) := (blk_cell BK170.out 0).trans rfl; have hcz168_1 : w162.cell? ⟨gb170, 1, none⟩ = some (.slice none 0 0) := (blk_cell BK170.out 1).trans rfl; have hfz168_0 := blk_frozen BK170.out 0; have hfz168_1 := blk_frozen BK170.out 1))
             refine bodyPost_ret (results_ct rfl _ _ gb170 26 #[.slice none 0 0, .slice none 0 0] (0, 0) _ rfl (by (with_reducible repeat (first | refine blk_drewN ?_ _ | refine blk_drew ?_ | refine blk_alloc ?_ _)); refine blk_put (cs := #[.slice none 0 0, .slice none 0 0]) ?_ 1 _ rfl; (with_reducible repeat (first | refine blk_drewN ?_ _ | refine blk_drew ?_ | refine blk_alloc ?_ _)); refine blk_put (cs := #[.slice none 0 0, .slice none 0 0]) ?_ 0 _ rfl; (with_reducible repeat (first | refine blk_drewN ?_ _ | refine blk_drew ?_ | refine blk_alloc ?_ _)); exact BK170.out) Try.underlying26 rfl (by kernel_rfl)) rfl ?_
             exact ⟨_, _, by first | rfl | (simp [errW_none, errW_some] <;> rfl) | (simp [*, errW_none, errW_some] <;> rfl), by first | exact Kd.R_nil _ _ _ _ _ | exact Kd.N_nil _ _ _ _ _ | exact Kd.V_nil _ _ _ _ _ | exact Kd.Q_nil _ _ _ _ _ | exact Kd.S_nil _ _ _ _ _, by first | exact Kd.R_nil _ _ _ _ _ | exact Kd.N_nil _ _ _ _ _ | exact Kd.V_nil _ _ _ _ _ | exact Kd.Q_nil _ _ _ _ _ | exact Kd.S_nil _ _ _ _ _, by repeat (first | (with_reducible first | exact HB.out | apply below_alloc | apply pw_below_drewN | apply below_drew1 | refine below_set ?_ GE168.out | refine below_set ?_ GE169.out | refine below_set ?_ GE170.out | refine below_set ?_ GE171.out) | exact HB.out)⟩
           ·
            rw [if_neg c105] at H
            exact absurd H (by simp)
          ·
           rw [if_neg c104] at H
           exact absurd H (by simp)
        ·
         rw [if_neg c92] at H
         exact absurd H (by simp)

end Go.Proofs.Ytcnbajdnlkcjjaa.PFnExactCopy
