/- The walk of what a law reaches, for the law's row: written by a program of this session; it has no condition of its own. -/
import Derived.Test.YtcnbajdnlkcjjaaPFnExactCopyx0
import Derived.Test.YtcnbajdnlkcjjaaQ
import Derived.Test.YtcnbajdnlkcjjaaPFnExactCopyx5
import Derived.Test.YtcnbajdnlkcjjaaPFnExactCopyx6
import Derived.Test.YtcnbajdnlkcjjaaPFnExactCopyx7
namespace Go.Proofs.Ytcnbajdnlkcjjaa.PFnExactCopy
open Go.RowKit Go.Proofs.YtcnbajdnlkcjjaaW.PrintWords Go.Proofs.YtcnbajdnlkcjjaaW.PrintLast Go.Proofs.YtcnbajdnlkcjjaaW.PrintMore Go.Proofs.YtcnbajdnlkcjjaaQ
attribute [local go_sem] max2_int min2_int max_two min_two max_three min_three max_four min_four   -- for this text's walks alone
set_option linter.unusedVariables false
set_option linter.unusedSimpArgs false

/-! ### impl_Copy: function 44 -/
mutual
def impl_Copy.j0 : Nat → Bool → List Int → List Int → List Int → List Int → Option (List Int × List Int × Int)
 | 0, _, _, _, _, _ => none
 | k + 1, x10, x248000, x248001, x249000, x249001 => if x10 = true then (some (([] : List Int), ([] : List Int), 1)) else (if (x248000.length : Int) > 1 then (impl_Copy.j1 k true x248000 x248001 x249000 x249001) else (impl_Copy.j1 k ((x249000.length : Int) == 0) x248000 x248001 x249000 x249001))
def impl_Copy.j1 : Nat → Bool → List Int → List Int → List Int → List Int → Option (List Int × List Int × Int)
 | 0, _, _, _, _, _ => none
 | k + 1, x20, x248000, x248001, x249000, x249001 => if x20 = true then (some (([] : List Int), ([] : List Int), 4)) else (if (x248001.length : Int) = 1 then (impl_Copy.j2 k false x248000 x248001 x249000 x249001) else (if 0 < (x249000.length : Int) then (impl_Copy.j2 k ((x248001.length : Int) != (rd x249000 0)) x248000 x248001 x249000 x249001) else (none)))
def impl_Copy.j2 : Nat → Bool → List Int → List Int → List Int → List Int → Option (List Int × List Int × Int)
 | 0, _, _, _, _, _ => none
 | k + 1, x32, x248000, x248001, x249000, x249001 => if x32 = true then (some (([] : List Int), ([] : List Int), 3)) else ((slices_ContainsFunc_Copy1.f k x248001).bind fun t253 => (if t253 = true then (some (([] : List Int), ([] : List Int), 2)) else ((impl_Rows.f k x249000 x249001).bind fun t254 => (impl_Copy.l0 k ([] : List (S26)) t254 (t254.length : Int) 0 x248000 x248001 x249000 x249001))))
def impl_Copy.l0 : Nat → List (S26) → List (S26) → Int → Int → List Int → List Int → List Int → List Int → Option (List Int × List Int × Int)
 | 0, _, _, _, _, _, _, _, _ => none
 | k + 1, x6, x54, x55, x56, x248000, x248001, x249000, x249001 => if x56 < x55 then (if 0 ≤ x56 then (if x56 < (x54.length : Int) then (if 0 < (x248001.length : Int) then (if (x248001.length : Int) > 1 then (if x56 < (x248001.length : Int) then (impl_Copy.j4 k x6 (rd x248001 x56) x54 x55 x56 x248000 x248001 x249000 x249001 ((rd_T26 x54 x56).f0) ((rd_T26 x54 x56).f1)) else (none)) else (impl_Copy.j4 k x6 (rd x248001 0) x54 x55 x56 x248000 x248001 x249000 x249001 ((rd_T26 x54 x56).f0) ((rd_T26 x54 x56).f1))) else (none)) else (none)) else (none)) else (if 1 ≤ (x249000.length : Int) then ((impl_joined.f k x6 (x249000.drop 1)).bind fun bt258 => (some (bt258.1, bt258.2.1, bt258.2.2))) else (none))
def impl_Copy.j4 : Nat → List (S26) → Int → List (S26) → Int → Int → List Int → List Int → List Int → List Int → List Int → List Int → Option (List Int × List Int × Int)
 | 0, _, _, _, _, _, _, _, _, _, _, _ => none
 | k + 1, x6, x9, x54, x55, x56, x248000, x248001, x249000, x249001, x267000, x267001 => if x9 > (wrap64 (300 - (x6.length : Int))) then (some (([] : List Int), ([] : List Int), 6)) else (impl_Copy.l1 k x6 x9 x54 x55 x56 x248000 x248001 x249000 x249001 x267000 x267001)
def impl_Copy.l1 : Nat → List (S26) → Int → List (S26) → Int → Int → List Int → List Int → List Int → List Int → List Int → List Int → Option (List Int × List Int × Int)
 | 0, _, _, _, _, _, _, _, _, _, _, _ => none
 | k + 1, x6, x9, x54, x55, x56, x248000, x248001, x249000, x249001, x267000, x267001 => if x9 > 0 then (if x6.length < 2932031007402 then (impl_Copy.l1 k (x6 ++ [(⟨x267000, x267001⟩ : S26)]) (wrap64 (x9 - 1)) x54 x55 x56 x248000 x248001 x249000 x249001 x267000 x267001) else (none)) else (impl_Copy.l0 k x6 x54 x55 (wrap64 (x56 + 1)) x248000 x248001 x249000 x249001)
end
def impl_Copy.f (k : Nat) (l0_0 : List Int) (l0_1 : List Int) (l1_0 : List Int) (l1_1 : List Int) : Option (List Int × List Int × Int) := (impl_ArrayOk.f k l0_0 l0_1).bind fun t250 => (if t250 = true then ((impl_ArrayOk.f k l1_0 l1_1).bind fun t251 => (impl_Copy.j0 k (!t251) l0_0 l0_1 l1_0 l1_1)) else (impl_Copy.j0 k true l0_0 l0_1 l1_0 l1_1))
theorem impl_Copy.mono_l : ∀ k, (∀ y0 y1 y2 y3 y4, LeO (impl_Copy.j0 k y0 y1 y2 y3 y4) (impl_Copy.j0 (k + 1) y0 y1 y2 y3 y4)) ∧ (∀ y0 y1 y2 y3 y4, LeO (impl_Copy.j1 k y0 y1 y2 y3 y4) (impl_Copy.j1 (k + 1) y0 y1 y2 y3 y4)) ∧ (∀ y0 y1 y2 y3 y4, LeO (impl_Copy.j2 k y0 y1 y2 y3 y4) (impl_Copy.j2 (k + 1) y0 y1 y2 y3 y4)) ∧ (∀ y0 y1 y2 y3 y4 y5 y6 y7, LeO (impl_Copy.l0 k y0 y1 y2 y3 y4 y5 y6 y7) (impl_Copy.l0 (k + 1) y0 y1 y2 y3 y4 y5 y6 y7)) ∧ (∀ y0 y1 y2 y3 y4 y5 y6 y7 y8 y9 y10, LeO (impl_Copy.j4 k y0 y1 y2 y3 y4 y5 y6 y7 y8 y9 y10) (impl_Copy.j4 (k + 1) y0 y1 y2 y3 y4 y5 y6 y7 y8 y9 y10)) ∧ (∀ y0 y1 y2 y3 y4 y5 y6 y7 y8 y9 y10, LeO (impl_Copy.l1 k y0 y1 y2 y3 y4 y5 y6 y7 y8 y9 y10) (impl_Copy.l1 (k + 1) y0 y1 y2 y3 y4 y5 y6 y7 y8 y9 y10))
 | 0 => ⟨fun _ _ _ _ _ r h => by simp [impl_Copy.j0] at h, fun _ _ _ _ _ r h => by simp [impl_Copy.j1] at h, fun _ _ _ _ _ r h => by simp [impl_Copy.j2] at h, fun _ _ _ _ _ _ _ _ r h => by simp [impl_Copy.l0] at h, fun _ _ _ _ _ _ _ _ _ _ _ r h => by simp [impl_Copy.j4] at h, fun _ _ _ _ _ _ _ _ _ _ _ r h => by simp [impl_Copy.l1] at h⟩
 | k + 1 => by
  obtain ⟨ih0, ih1, ih2, ih3, ih4, ih5⟩ := impl_Copy.mono_l k
  refine ⟨?_, ?_, ?_, ?_, ?_, ?_⟩
  ·
   intro y0 y1 y2 y3 y4
   unfold impl_Copy.j0
   repeat' first
   | (with_reducible exact ih0 _ _ _ _ _)
   | (with_reducible exact ih1 _ _ _ _ _)
   | (with_reducible exact ih2 _ _ _ _ _)
   | (with_reducible exact ih3 _ _ _ _ _ _ _ _)
   | (with_reducible exact ih4 _ _ _ _ _ _ _ _ _ _ _)
   | (with_reducible exact ih5 _ _ _ _ _ _ _ _ _ _ _)
   | (with_reducible exact impl_ArrayOk.mono _ _ _)
   | (with_reducible exact impl_Rows.mono _ _ _)
   | (with_reducible exact impl_joined.mono _ _ _)
   | (with_reducible exact slices_ContainsFunc_Copy1.mono _ _)
   | (with_reducible exact LeO.refl _)
   | (with_reducible exact LeO.none _)
   | (with_reducible refine LeO.ite ?_ ?_)
   | (with_reducible refine LeO.bind ?_ (fun _ => ?_))
   | exact ih0 _ _ _ _ _
   | exact ih1 _ _ _ _ _
   | exact ih2 _ _ _ _ _
   | exact ih3 _ _ _ _ _ _ _ _
   | exact ih4 _ _ _ _ _ _ _ _ _ _ _
   | exact ih5 _ _ _ _ _ _ _ _ _ _ _
   | exact impl_ArrayOk.mono _ _ _
   | exact impl_Rows.mono _ _ _
   | exact impl_joined.mono _ _ _
   | exact slices_ContainsFunc_Copy1.mono _ _
   | exact LeO.none _
   | refine LeO.ite ?_ ?_
   | refine LeO.bind ?_ (fun _ => ?_)
  ·
   intro y0 y1 y2 y3 y4
   unfold impl_Copy.j1
   repeat' first
   | (with_reducible exact ih0 _ _ _ _ _)
   | (with_reducible exact ih1 _ _ _ _ _)
   | (with_reducible exact ih2 _ _ _ _ _)
   | (with_reducible exact ih3 _ _ _ _ _ _ _ _)
   | (with_reducible exact ih4 _ _ _ _ _ _ _ _ _ _ _)
   | (with_reducible exact ih5 _ _ _ _ _ _ _ _ _ _ _)
   | (with_reducible exact impl_ArrayOk.mono _ _ _)
   | (with_reducible exact impl_Rows.mono _ _ _)
   | (with_reducible exact impl_joined.mono _ _ _)
   | (with_reducible exact slices_ContainsFunc_Copy1.mono _ _)
   | (with_reducible exact LeO.refl _)
   | (with_reducible exact LeO.none _)
   | (with_reducible refine LeO.ite ?_ ?_)
   | (with_reducible refine LeO.bind ?_ (fun _ => ?_))
   | exact ih0 _ _ _ _ _
   | exact ih1 _ _ _ _ _
   | exact ih2 _ _ _ _ _
   | exact ih3 _ _ _ _ _ _ _ _
   | exact ih4 _ _ _ _ _ _ _ _ _ _ _
   | exact ih5 _ _ _ _ _ _ _ _ _ _ _
   | exact impl_ArrayOk.mono _ _ _
   | exact impl_Rows.mono _ _ _
   | exact impl_joined.mono _ _ _
   | exact slices_ContainsFunc_Copy1.mono _ _
   | exact LeO.none _
   | refine LeO.ite ?_ ?_
   | refine LeO.bind ?_ (fun _ => ?_)
  ·
   intro y0 y1 y2 y3 y4
   unfold impl_Copy.j2
   repeat' first
   | (with_reducible exact ih0 _ _ _ _ _)
   | (with_reducible exact ih1 _ _ _ _ _)
   | (with_reducible exact ih2 _ _ _ _ _)
   | (with_reducible exact ih3 _ _ _ _ _ _ _ _)
   | (with_reducible exact ih4 _ _ _ _ _ _ _ _ _ _ _)
   | (with_reducible exact ih5 _ _ _ _ _ _ _ _ _ _ _)
   | (with_reducible exact impl_ArrayOk.mono _ _ _)
   | (with_reducible exact impl_Rows.mono _ _ _)
   | (with_reducible exact impl_joined.mono _ _ _)
   | (with_reducible exact slices_ContainsFunc_Copy1.mono _ _)
   | (with_reducible exact LeO.refl _)
   | (with_reducible exact LeO.none _)
   | (with_reducible refine LeO.ite ?_ ?_)
   | (with_reducible refine LeO.bind ?_ (fun _ => ?_))
   | exact ih0 _ _ _ _ _
   | exact ih1 _ _ _ _ _
   | exact ih2 _ _ _ _ _
   | exact ih3 _ _ _ _ _ _ _ _
   | exact ih4 _ _ _ _ _ _ _ _ _ _ _
   | exact ih5 _ _ _ _ _ _ _ _ _ _ _
   | exact impl_ArrayOk.mono _ _ _
   | exact impl_Rows.mono _ _ _
   | exact impl_joined.mono _ _ _
   | exact slices_ContainsFunc_Copy1.mono _ _
   | exact LeO.none _
   | refine LeO.ite ?_ ?_
   | refine LeO.bind ?_ (fun _ => ?_)
  ·
   intro y0 y1 y2 y3 y4 y5 y6 y7
   unfold impl_Copy.l0
   repeat' first
   | (with_reducible exact ih0 _ _ _ _ _)
   | (with_reducible exact ih1 _ _ _ _ _)
   | (with_reducible exact ih2 _ _ _ _ _)
   | (with_reducible exact ih3 _ _ _ _ _ _ _ _)
   | (with_reducible exact ih4 _ _ _ _ _ _ _ _ _ _ _)
   | (with_reducible exact ih5 _ _ _ _ _ _ _ _ _ _ _)
   | (with_reducible exact impl_ArrayOk.mono _ _ _)
   | (with_reducible exact impl_Rows.mono _ _ _)
   | (with_reducible exact impl_joined.mono _ _ _)
   | (with_reducible exact slices_ContainsFunc_Copy1.mono _ _)
   | (with_reducible exact LeO.refl _)
   | (with_reducible exact LeO.none _)
   | (with_reducible refine LeO.ite ?_ ?_)
   | (with_reducible refine LeO.bind ?_ (fun _ => ?_))
   | exact ih0 _ _ _ _ _
   | exact ih1 _ _ _ _ _
   | exact ih2 _ _ _ _ _
   | exact ih3 _ _ _ _ _ _ _ _
   | exact ih4 _ _ _ _ _ _ _ _ _ _ _
   | exact ih5 _ _ _ _ _ _ _ _ _ _ _
   | exact impl_ArrayOk.mono _ _ _
   | exact impl_Rows.mono _ _ _
   | exact impl_joined.mono _ _ _
   | exact slices_ContainsFunc_Copy1.mono _ _
   | exact LeO.none _
   | refine LeO.ite ?_ ?_
   | refine LeO.bind ?_ (fun _ => ?_)
  ·
   intro y0 y1 y2 y3 y4 y5 y6 y7 y8 y9 y10
   unfold impl_Copy.j4
   repeat' first
   | (with_reducible exact ih0 _ _ _ _ _)
   | (with_reducible exact ih1 _ _ _ _ _)
   | (with_reducible exact ih2 _ _ _ _ _)
   | (with_reducible exact ih3 _ _ _ _ _ _ _ _)
   | (with_reducible exact ih4 _ _ _ _ _ _ _ _ _ _ _)
   | (with_reducible exact ih5 _ _ _ _ _ _ _ _ _ _ _)
   | (with_reducible exact impl_ArrayOk.mono _ _ _)
   | (with_reducible exact impl_Rows.mono _ _ _)
   | (with_reducible exact impl_joined.mono _ _ _)
   | (with_reducible exact slices_ContainsFunc_Copy1.mono _ _)
   | (with_reducible exact LeO.refl _)
   | (with_reducible exact LeO.none _)
   | (with_reducible refine LeO.ite ?_ ?_)
   | (with_reducible refine LeO.bind ?_ (fun _ => ?_))
   | exact ih0 _ _ _ _ _
   | exact ih1 _ _ _ _ _
   | exact ih2 _ _ _ _ _
   | exact ih3 _ _ _ _ _ _ _ _
   | exact ih4 _ _ _ _ _ _ _ _ _ _ _
   | exact ih5 _ _ _ _ _ _ _ _ _ _ _
   | exact impl_ArrayOk.mono _ _ _
   | exact impl_Rows.mono _ _ _
   | exact impl_joined.mono _ _ _
   | exact slices_ContainsFunc_Copy1.mono _ _
   | exact LeO.none _
   | refine LeO.ite ?_ ?_
   | refine LeO.bind ?_ (fun _ => ?_)
  ·
   intro y0 y1 y2 y3 y4 y5 y6 y7 y8 y9 y10
   unfold impl_Copy.l1
   repeat' first
   | (with_reducible exact ih0 _ _ _ _ _)
   | (with_reducible exact ih1 _ _ _ _ _)
   | (with_reducible exact ih2 _ _ _ _ _)
   | (with_reducible exact ih3 _ _ _ _ _ _ _ _)
   | (with_reducible exact ih4 _ _ _ _ _ _ _ _ _ _ _)
   | (with_reducible exact ih5 _ _ _ _ _ _ _ _ _ _ _)
   | (with_reducible exact impl_ArrayOk.mono _ _ _)
   | (with_reducible exact impl_Rows.mono _ _ _)
   | (with_reducible exact impl_joined.mono _ _ _)
   | (with_reducible exact slices_ContainsFunc_Copy1.mono _ _)
   | (with_reducible exact LeO.refl _)
   | (with_reducible exact LeO.none _)
   | (with_reducible refine LeO.ite ?_ ?_)
   | (with_reducible refine LeO.bind ?_ (fun _ => ?_))
   | exact ih0 _ _ _ _ _
   | exact ih1 _ _ _ _ _
   | exact ih2 _ _ _ _ _
   | exact ih3 _ _ _ _ _ _ _ _
   | exact ih4 _ _ _ _ _ _ _ _ _ _ _
   | exact ih5 _ _ _ _ _ _ _ _ _ _ _
   | exact impl_ArrayOk.mono _ _ _
   | exact impl_Rows.mono _ _ _
   | exact impl_joined.mono _ _ _
   | exact slices_ContainsFunc_Copy1.mono _ _
   | exact LeO.none _
   | refine LeO.ite ?_ ?_
   | refine LeO.bind ?_ (fun _ => ?_)
theorem impl_Copy.mono : ∀ a0 a1 a2 a3 k, LeO (impl_Copy.f k a0 a1 a2 a3) (impl_Copy.f (k + 1) a0 a1 a2 a3) := by
 intro a0 a1 a2 a3 k
 obtain ⟨ih0, ih1, ih2, ih3, ih4, ih5⟩ := impl_Copy.mono_l k
 unfold impl_Copy.f
 repeat' first
   | (with_reducible exact ih0 _ _ _ _ _)
   | (with_reducible exact ih1 _ _ _ _ _)
   | (with_reducible exact ih2 _ _ _ _ _)
   | (with_reducible exact ih3 _ _ _ _ _ _ _ _)
   | (with_reducible exact ih4 _ _ _ _ _ _ _ _ _ _ _)
   | (with_reducible exact ih5 _ _ _ _ _ _ _ _ _ _ _)
   | (with_reducible exact impl_ArrayOk.mono _ _ _)
   | (with_reducible exact impl_Rows.mono _ _ _)
   | (with_reducible exact impl_joined.mono _ _ _)
   | (with_reducible exact slices_ContainsFunc_Copy1.mono _ _)
   | (with_reducible exact LeO.refl _)
   | (with_reducible exact LeO.none _)
   | (with_reducible refine LeO.ite ?_ ?_)
   | (with_reducible refine LeO.bind ?_ (fun _ => ?_))
   | exact ih0 _ _ _ _ _
   | exact ih1 _ _ _ _ _
   | exact ih2 _ _ _ _ _
   | exact ih3 _ _ _ _ _ _ _ _
   | exact ih4 _ _ _ _ _ _ _ _ _ _ _
   | exact ih5 _ _ _ _ _ _ _ _ _ _ _
   | exact impl_ArrayOk.mono _ _ _
   | exact impl_Rows.mono _ _ _
   | exact impl_joined.mono _ _ _
   | exact slices_ContainsFunc_Copy1.mono _ _
   | exact LeO.none _
   | refine LeO.ite ?_ ?_
   | refine LeO.bind ?_ (fun _ => ?_)
set_option maxHeartbeats 8000000 in
set_option maxRecDepth 100000 in
theorem impl_Copy.calls (k : Nat) (A0_0 : Option Addr) (c0_0 : Nat) (l0_0 : List Int) (A0_1 : Option Addr) (c0_1 : Nat) (l0_1 : List Int) (A1_0 : Option Addr) (c1_0 : Nat) (l1_0 : List Int) (A1_1 : Option Addr) (c1_1 : Nat) (l1_1 : List Int) (r1 : List Int) (r2 : List Int) (r3 : Int) (w : World) (hr0_0 : Kd.C (Kd.int .i64) w A0_0 l0_0.length l0_0) (hc0_0 : l0_0.length ≤ c0_0) (hr0_1 : Kd.C (Kd.int .i64) w A0_1 l0_1.length l0_1) (hc0_1 : l0_1.length ≤ c0_1) (hr1_0 : Kd.C (Kd.int .i64) w A1_0 l1_0.length l1_0) (hc1_0 : l1_0.length ≤ c1_0) (hr1_1 : Kd.C (Kd.int .i64) w A1_1 l1_1.length l1_1) (hc1_1 : l1_1.length ≤ c1_1) (h : impl_Copy.f k l0_0 l0_1 l1_0 l1_1 = some (r1, r2, r3)) :
  Calls Try.prog 44 #[.agg #[.slice A0_0 l0_0.length c0_0, .slice A0_1 l0_1.length c0_1], .agg #[.slice A1_0 l1_0.length c1_0, .slice A1_1 l1_1.length c1_1]] w fun e w' => ∃ v0_ v1_ : Value, e = .returned (.tuple #[.agg #[v0_, v1_], .int .i64 r3]) ∧ Kd.R (Kd.int .i64) 3 w' w.heap.size (fun k_ => some k_ ≠ (v1_ : Value).ownBlock) v0_ r1 ∧ Kd.R (Kd.int .i64) 3 w' w.heap.size (fun k_ => some k_ ≠ (v0_ : Value).ownBlock) v1_ r2 ∧ Below w.heap.size w w' := by
 have hu26 := Try.underlying26
 have HR0_0 := Aside0.mk hr0_0
 have HC0_0 := Aside0.mk hc0_0
 clear hr0_0 hc0_0
 have HR0_1 := Aside0.mk hr0_1
 have HC0_1 := Aside0.mk hc0_1
 clear hr0_1 hc0_1
 have HR1_0 := Aside0.mk hr1_0
 have HC1_0 := Aside0.mk hc1_0
 clear hr1_0 hc1_0
 have HR1_1 := Aside0.mk hr1_1
 have HC1_1 := Aside0.mk hc1_1
 clear hr1_1 hc1_1
 have HB := Aside0.mk (Below.refl w.heap.size w)
 have H : ((impl_ArrayOk.f k l0_0 l0_1).bind fun t250 => (if t250 = true then ((impl_ArrayOk.f k l1_0 l1_1).bind fun t251 => (impl_Copy.j0 k (!t251) l0_0 l0_1 l1_0 l1_1)) else (impl_Copy.j0 k true l0_0 l0_1 l1_0 l1_1))) = some (r1, r2, r3) := h
 clear h
 have HC3 := Aside0.mk H
 clear H
 go_enter Try.func44, Try.ntmps44
 go_upto_region 1 with (first | ((with_reducible refine gate_dst (N := 2) rfl ?_); (try (refine gate_guard (by rfl) ?_; dsimp only)); refine box_event ?hg (N := 2) ?hd (cs := #[.slice A0_0 l0_0.length c0_0, .slice A0_1 l0_1.length c0_1]) (t := 26) ?hr ?_; (case hd => rfl); (case hg => rfl); (case hr => first | (go_simp; done) | (go_simp; rfl)); intro gb247 hg w4 hbox hb; have BK247 := Aside0.mk (hbox); have GW247 := Aside0.mk ((by rw [hg]; exact (below_size (bU HB.out)) : w.heap.size ≤ gb247)); have GE247 := Aside0.mk ((by rw [hg]; exact (below_size (bU HB.out)) : w.heap.size ≤ gb247)); replace HB := Aside0.mk (below_step (bU HB.out) hb); clear hb hbox hg) | ((with_reducible refine gate_dst (N := 3) rfl ?_); (try (refine gate_guard (by rfl) ?_; dsimp only)); refine box_event ?hg (N := 3) ?hd (cs := #[.slice A1_0 l1_0.length c1_0, .slice A1_1 l1_1.length c1_1]) (t := 26) ?hr ?_; (case hd => rfl); (case hg => rfl); (case hr => first | (go_simp; done) | (go_simp; rfl)); intro gb248 hg w5 hbox hb; have BK248 := Aside0.mk (hbox); have GW248 := Aside0.mk ((by rw [hg]; exact (below_size (bS1 HB.out GE247.out)) : w.heap.size ≤ gb248)); have GE248 := Aside0.mk ((by rw [hg]; exact (below_size (bS1 HB.out GE247.out)) : w.heap.size ≤ gb248)); replace HB := Aside0.mk (below_step (bS1 HB.out GE247.out) hb); have NB247_248 := Aside0.mk ((by rw [hg]; exact Nat.ne_of_lt (blk_lt (g := gb247) (o := .cells #[.slice A0_0 l0_0.length c0_0, .slice A0_1 l0_1.length c0_1] 26 (0, 0)) (kU BK247.out)) : gb247 ≠ gb248)); have NB248_247 := Aside0.mk ((by rw [hg]; exact Nat.ne_of_gt (blk_lt (g := gb247) (o := .cells #[.slice A0_0 l0_0.length c0_0, .slice A0_1 l0_1.length c0_1] 26 (0, 0)) (kU BK247.out)) : gb248 ≠ gb247)); replace BK247 := Aside0.mk (blk_below (g := gb247) (o := .cells #[.slice A0_0 l0_0.length c0_0, .slice A0_1 l0_1.length c0_1] 26 (0, 0)) (kU BK247.out) hb); clear hb hbox hg) | ((with_reducible refine gate_dst (N := 4) rfl ?_); (try (refine gate_guard (by rfl) ?_; dsimp only)); refine box_event ?hg (N := 4) ?hd (cs := #[.slice none 0 0, .slice none 0 0]) (t := 26) ?hr ?_; (case hd => rfl); (case hg => rfl); (case hr => first | (go_simp; done) | (go_simp; rfl)); intro gb249 hg w6 hbox hb; have BK249 := Aside0.mk (hbox); have GW249 := Aside0.mk ((by rw [hg]; exact (below_size (bS2 HB.out GE247.out GE248.out)) : w.heap.size ≤ gb249)); have GE249 := Aside0.mk ((by rw [hg]; exact (below_size (bS2 HB.out GE247.out GE248.out)) : w.heap.size ≤ gb249)); replace HB := Aside0.mk (below_step (bS2 HB.out GE247.out GE248.out) hb); have NB247_249 := Aside0.mk ((by rw [hg]; exact Nat.ne_of_lt (blk_lt (g := gb247) (o := .cells #[.slice A0_0 l0_0.length c0_0, .slice A0_1 l0_1.length c0_1] 26 (0, 0)) (kU BK247.out)) : gb247 ≠ gb249)); have NB249_247 := Aside0.mk ((by rw [hg]; exact Nat.ne_of_gt (blk_lt (g := gb247) (o := .cells #[.slice A0_0 l0_0.length c0_0, .slice A0_1 l0_1.length c0_1] 26 (0, 0)) (kU BK247.out)) : gb249 ≠ gb247)); replace BK247 := Aside0.mk (blk_below (g := gb247) (o := .cells #[.slice A0_0 l0_0.length c0_0, .slice A0_1 l0_1.length c0_1] 26 (0, 0)) (kU BK247.out) hb); have NB248_249 := Aside0.mk ((by rw [hg]; exact Nat.ne_of_lt (blk_lt (g := gb248) (o := .cells #[.slice A1_0 l1_0.length c1_0, .slice A1_1 l1_1.length c1_1] 26 (0, 0)) (kU BK248.out)) : gb248 ≠ gb249)); have NB249_248 := Aside0.mk ((by rw [hg]; exact Nat.ne_of_gt (blk_lt (g := gb248) (o := .cells #[.slice A1_0 l1_0.length c1_0, .slice A1_1 l1_1.length c1_1] 26 (0, 0)) (kU BK248.out)) : gb249 ≠ gb248)); replace BK248 := Aside0.mk (blk_below (g := gb248) (o := .cells #[.slice A1_0 l1_0.length c1_0, .slice A1_1 l1_1.length c1_1] 26 (0, 0)) (kU BK248.out) hb); clear hb hbox hg))
 repeat (go_quiet (fail); go_upto_region 1 with (first | ((with_reducible refine gate_dst (N := 2) rfl ?_); (try (refine gate_guard (by rfl) ?_; dsimp only)); refine box_event ?hg (N := 2) ?hd (cs := #[.slice A0_0 l0_0.length c0_0, .slice A0_1 l0_1.length c0_1]) (t := 26) ?hr ?_; (case hd => rfl); (case hg => rfl); (case hr => first | (go_simp; done) | (go_simp; rfl)); intro gb247 hg w4 hbox hb; have BK247 := Aside0.mk (hbox); have GW247 := Aside0.mk ((by rw [hg]; exact (below_size (bU HB.out)) : w.heap.size ≤ gb247)); have GE247 := Aside0.mk ((by rw [hg]; exact (below_size (bU HB.out)) : w.heap.size ≤ gb247)); replace HB := Aside0.mk (below_step (bU HB.out) hb); clear hb hbox hg) | ((with_reducible refine gate_dst (N := 3) rfl ?_); (try (refine gate_guard (by rfl) ?_; dsimp only)); refine box_event ?hg (N := 3) ?hd (cs := #[.slice A1_0 l1_0.length c1_0, .slice A1_1 l1_1.length c1_1]) (t := 26) ?hr ?_; (case hd => rfl); (case hg => rfl); (case hr => first | (go_simp; done) | (go_simp; rfl)); intro gb248 hg w5 hbox hb; have BK248 := Aside0.mk (hbox); have GW248 := Aside0.mk ((by rw [hg]; exact (below_size (bS1 HB.out GE247.out)) : w.heap.size ≤ gb248)); have GE248 := Aside0.mk ((by rw [hg]; exact (below_size (bS1 HB.out GE247.out)) : w.heap.size ≤ gb248)); replace HB := Aside0.mk (below_step (bS1 HB.out GE247.out) hb); have NB247_248 := Aside0.mk ((by rw [hg]; exact Nat.ne_of_lt (blk_lt (g := gb247) (o := .cells #[.slice A0_0 l0_0.length c0_0, .slice A0_1 l0_1.length c0_1] 26 (0, 0)) (kU BK247.out)) : gb247 ≠ gb248)); have NB248_247 := Aside0.mk ((by rw [hg]; exact Nat.ne_of_gt (blk_lt (g := gb247) (o := .cells #[.slice A0_0 l0_0.length c0_0, .slice A0_1 l0_1.length c0_1] 26 (0, 0)) (kU BK247.out)) : gb248 ≠ gb247)); replace BK247 := Aside0.mk (blk_below (g := gb247) (o := .cells #[.slice A0_0 l0_0.length c0_0, .slice A0_1 l0_1.length c0_1] 26 (0, 0)) (kU BK247.out) hb); clear hb hbox hg) | ((with_reducible refine gate_dst (N := 4) rfl ?_); (try (refine gate_guard (by rfl) ?_; dsimp only)); refine box_event ?hg (N := 4) ?hd (cs := #[.slice none 0 0, .slice none 0 0]) (t := 26) ?hr ?_; (case hd => rfl); (case hg => rfl); (case hr => first | (go_simp; done) | (go_simp; rfl)); intro gb249 hg w6 hbox hb; have BK249 := Aside0.mk (hbox); have GW249 := Aside0.mk ((by rw [hg]; exact (below_size (bS2 HB.out GE247.out GE248.out)) : w.heap.size ≤ gb249)); have GE249 := Aside0.mk ((by rw [hg]; exact (below_size (bS2 HB.out GE247.out GE248.out)) : w.heap.size ≤ gb249)); replace HB := Aside0.mk (below_step (bS2 HB.out GE247.out GE248.out) hb); have NB247_249 := Aside0.mk ((by rw [hg]; exact Nat.ne_of_lt (blk_lt (g := gb247) (o := .cells #[.slice A0_0 l0_0.length c0_0, .slice A0_1 l0_1.length c0_1] 26 (0, 0)) (kU BK247.out)) : gb247 ≠ gb249)); have NB249_247 := Aside0.mk ((by rw [hg]; exact Nat.ne_of_gt (blk_lt (g := gb247) (o := .cells #[.slice A0_0 l0_0.length c0_0, .slice A0_1 l0_1.length c0_1] 26 (0, 0)) (kU BK247.out)) : gb249 ≠ gb247)); replace BK247 := Aside0.mk (blk_below (g := gb247) (o := .cells #[.slice A0_0 l0_0.length c0_0, .slice A0_1 l0_1.length c0_1] 26 (0, 0)) (kU BK247.out) hb); have NB248_249 := Aside0.mk ((by rw [hg]; exact Nat.ne_of_lt (blk_lt (g := gb248) (o := .cells #[.slice A1_0 l1_0.length c1_0, .slice A1_1 l1_1.length c1_1] 26 (0, 0)) (kU BK248.out)) : gb248 ≠ gb249)); have NB249_248 := Aside0.mk ((by rw [hg]; exact Nat.ne_of_gt (blk_lt (g := gb248) (o := .cells #[.slice A1_0 l1_0.length c1_0, .slice A1_1 l1_1.length c1_1] 26 (0, 0)) (kU BK248.out)) : gb249 ≠ gb248)); replace BK248 := Aside0.mk (blk_below (g := gb248) (o := .cells #[.slice A1_0 l1_0.length c1_0, .slice A1_1 l1_1.length c1_1] 26 (0, 0)) (kU BK248.out) hb); clear hb hbox hg)))
 (try simp only [Act.put, List.setIfInBounds_toArray, List.set_cons_zero, List.set_cons_succ])
 go_cut [10] (fun v10 wc => ∃ (kq : Nat) (x10_2 : Bool), v10 = .bool x10_2 ∧ Aside0 (impl_Copy.j0 kq x10_2 l0_0 l0_1 l1_0 l1_1 = some (r1, r2, r3)) ∧ Aside0 (kq ≤ k) ∧ Aside0 (wc.heap[gb247]? = some (.cells #[(.slice A0_0 l0_0.length c0_0), (.slice A0_1 l0_1.length c0_1)] 26 (0, 0))) ∧ Aside0 (wc.heap[gb248]? = some (.cells #[(.slice A1_0 l1_0.length c1_0), (.slice A1_1 l1_1.length c1_1)] 26 (0, 0))) ∧ Aside0 (wc.heap[gb249]? = some (.cells #[(.slice none 0 0), (.slice none 0 0)] 26 (0, 0))) ∧ Aside0 (Below w.heap.size w wc))
 case first =>
  have H := HC3.out
  clear HC3
  replace H := Option.bind_eq_some_iff.mp H
  obtain ⟨t250, A70, H⟩ := H
  replace H : (if t250 = true then ((impl_ArrayOk.f k l1_0 l1_1).bind fun t251 => (impl_Copy.j0 k (!t251) l0_0 l0_1 l1_0 l1_1)) else (impl_Copy.j0 k true l0_0 l0_1 l1_0 l1_1)) = some (r1, r2, r3) := H
  have A7 := Aside0.mk A70
  clear A70
  by_cases c8 : t250 = true
  ·
   subst c8
   have H1 : ((impl_ArrayOk.f k l1_0 l1_1).bind fun t251 => (impl_Copy.j0 k (!t251) l0_0 l0_1 l1_0 l1_1)) = some (r1, r2, r3) := by rw [if_pos rfl] at H; exact H
   clear H
   have H := H1
   clear H1
   replace H := Option.bind_eq_some_iff.mp H
   obtain ⟨t251, A90, H⟩ := H
   replace H : (impl_Copy.j0 k (!t251) l0_0 l0_1 l1_0 l1_1) = some (r1, r2, r3) := H
   have A9 := Aside0.mk A90
   clear A90
   have H' := Aside0.mk H
   clear H
   have hnb10 := NB247_248.out
   have hnc10 := NB248_247.out
   have hnb11 := NB247_249.out
   have hnc11 := NB249_247.out
   have hcz12_0 : w6.cell? ⟨gb247, 0, none⟩ = some (.slice A0_0 l0_0.length c0_0) := (blk_cell BK247.out 0).trans rfl
   have hcz12_1 : w6.cell? ⟨gb247, 1, none⟩ = some (.slice A0_1 l0_1.length c0_1) := (blk_cell BK247.out 1).trans rfl
   have hfz12_0 := blk_frozen BK247.out 0
   have hfz12_1 := blk_frozen BK247.out 1
   go_wp2_with (first | (go_at_call 36; (repeat rw [i64_w]); (with_reducible refine (impl_ArrayOk.calls k _ _ l0_0 _ _ l0_1 true _ ?side1 ?side2 ?side3 ?side4 A7.out).mono ?_); (case side1 => exact cU (Kd.C_below HR0_0.out HB.out)); (case side2 => exact HC0_0.out); (case side3 => exact cU (Kd.C_below HR0_1.out HB.out)); (case side4 => exact HC0_1.out); rintro e w13 ⟨rfl, hb⟩; replace BK247 := Aside0.mk (blk_below (g := gb247) (o := .cells #[.slice A0_0 l0_0.length c0_0, .slice A0_1 l0_1.length c0_1] 26 (0, 0)) (kU BK247.out) hb); replace BK248 := Aside0.mk (blk_below (g := gb248) (o := .cells #[.slice A1_0 l1_0.length c1_0, .slice A1_1 l1_1.length c1_1] 26 (0, 0)) (kU BK248.out) hb); replace BK249 := Aside0.mk (blk_below (g := gb249) (o := .cells #[.slice none 0 0, .slice none 0 0] 26 (0, 0)) (kU BK249.out) hb); replace HB := Aside0.mk (below_step (bS3 HB.out GE247.out GE248.out GE249.out) hb); (try clear hb); (try clear hb2); (try clear hk); (try clear hi); have hnb14 := NB248_249.out; have hnc14 := NB249_248.out; have hcz15_0 : w13.cell? ⟨gb248, 0, none⟩ = some (.slice A1_0 l1_0.length c1_0) := (blk_cell BK248.out 0).trans rfl; have hcz15_1 : w13.cell? ⟨gb248, 1, none⟩ = some (.slice A1_1 l1_1.length c1_1) := (blk_cell BK248.out 1).trans rfl; have hfz15_0 := blk_frozen BK248.out 0; have hfz15_1 := blk_frozen BK248.out 1) | (go_at_call 36; (repeat rw [i64_w]); (with_reducible refine (impl_ArrayOk.calls k _ _ l1_0 _ _ l1_1 t251 _ ?side1 ?side2 ?side3 ?side4 A9.out).mono ?_); (case side1 => exact cU (Kd.C_below HR1_0.out HB.out)); (case side2 => exact HC1_0.out); (case side3 => exact cU (Kd.C_below HR1_1.out HB.out)); (case side4 => exact HC1_1.out); rintro e w16 ⟨rfl, hb⟩; replace BK247 := Aside0.mk (blk_below (g := gb247) (o := .cells #[.slice A0_0 l0_0.length c0_0, .slice A0_1 l0_1.length c0_1] 26 (0, 0)) (kU BK247.out) hb); replace BK248 := Aside0.mk (blk_below (g := gb248) (o := .cells #[.slice A1_0 l1_0.length c1_0, .slice A1_1 l1_1.length c1_1] 26 (0, 0)) (kU BK248.out) hb); replace BK249 := Aside0.mk (blk_below (g := gb249) (o := .cells #[.slice none 0 0, .slice none 0 0] 26 (0, 0)) (kU BK249.out) hb); replace HB := Aside0.mk (below_step (bS3 HB.out GE247.out GE248.out GE249.out) hb); (try clear hb); (try clear hb2); (try clear hk); (try clear hi)))
   repeat (go_quiet (fail); try go_wp2_with (first | (go_at_call 36; (repeat rw [i64_w]); (with_reducible refine (impl_ArrayOk.calls k _ _ l0_0 _ _ l0_1 true _ ?side1 ?side2 ?side3 ?side4 A7.out).mono ?_); (case side1 => exact cU (Kd.C_below HR0_0.out HB.out)); (case side2 => exact HC0_0.out); (case side3 => exact cU (Kd.C_below HR0_1.out HB.out)); (case side4 => exact HC0_1.out); rintro e w13 ⟨rfl, hb⟩; replace BK247 := Aside0.mk (blk_below (g := gb247) (o := .cells #[.slice A0_0 l0_0.length c0_0, .slice A0_1 l0_1.length c0_1] 26 (0, 0)) (kU BK247.out) hb); replace BK248 := Aside0.mk (blk_below (g := gb248) (o := .cells #[.slice A1_0 l1_0.length c1_0, .slice A1_1 l1_1.length c1_1] 26 (0, 0)) (kU BK248.out) hb); replace BK249 := Aside0.mk (blk_below (g := gb249) (o := .cells #[.slice none 0 0, .slice none 0 0] 26 (0, 0)) (kU BK249.out) hb); replace HB := Aside0.mk (below_step (bS3 HB.out GE247.out GE248.out GE249.out) hb); (try clear hb); (try clear hb2); (try clear hk); (try clear hi); have hnb14 := NB248_249.out; have hnc14 := NB249_248.out; have hcz15_0 : w13.cell? ⟨gb248, 0, none⟩ = some (.slice A1_0 l1_0.length c1_0) := (blk_cell BK248.out 0).trans rfl; have hcz15_1 : w13.cell? ⟨gb248, 1, none⟩ = some (.slice A1_1 l1_1.length c1_1) := (blk_cell BK248.out 1).trans rfl; have hfz15_0 := blk_frozen BK248.out 0; have hfz15_1 := blk_frozen BK248.out 1) | (go_at_call 36; (repeat rw [i64_w]); (with_reducible refine (impl_ArrayOk.calls k _ _ l1_0 _ _ l1_1 t251 _ ?side1 ?side2 ?side3 ?side4 A9.out).mono ?_); (case side1 => exact cU (Kd.C_below HR1_0.out HB.out)); (case side2 => exact HC1_0.out); (case side3 => exact cU (Kd.C_below HR1_1.out HB.out)); (case side4 => exact HC1_1.out); rintro e w16 ⟨rfl, hb⟩; replace BK247 := Aside0.mk (blk_below (g := gb247) (o := .cells #[.slice A0_0 l0_0.length c0_0, .slice A0_1 l0_1.length c0_1] 26 (0, 0)) (kU BK247.out) hb); replace BK248 := Aside0.mk (blk_below (g := gb248) (o := .cells #[.slice A1_0 l1_0.length c1_0, .slice A1_1 l1_1.length c1_1] 26 (0, 0)) (kU BK248.out) hb); replace BK249 := Aside0.mk (blk_below (g := gb249) (o := .cells #[.slice none 0 0, .slice none 0 0] 26 (0, 0)) (kU BK249.out) hb); replace HB := Aside0.mk (below_step (bS3 HB.out GE247.out GE248.out GE249.out) hb); (try clear hb); (try clear hb2); (try clear hk); (try clear hi))))
   go_meet
   case rel => exact ⟨_, (!t251), (by first | rfl | (simp; done) | (simp [*]; done)), H', ⟨by first | omega | exact Nat.le_refl _⟩, ⟨by (with_reducible repeat (first | refine blk_drewN ?_ _ | refine blk_drew ?_ | refine blk_alloc ?_ _)); exact BK247.out⟩, ⟨by (with_reducible repeat (first | refine blk_drewN ?_ _ | refine blk_drew ?_ | refine blk_alloc ?_ _)); exact BK248.out⟩, ⟨by (with_reducible repeat (first | refine blk_drewN ?_ _ | refine blk_drew ?_ | refine blk_alloc ?_ _)); exact BK249.out⟩, ⟨by repeat (first | (with_reducible first | exact HB.out | apply below_alloc | apply pw_below_drewN | apply below_drew1 | refine below_set ?_ GE247.out | refine below_set ?_ GE248.out | refine below_set ?_ GE249.out) | exact HB.out)⟩⟩
  ·
   replace c8 := Bool.eq_false_iff.mpr c8
   subst c8
   have H1 : (impl_Copy.j0 k true l0_0 l0_1 l1_0 l1_1) = some (r1, r2, r3) := by rw [if_neg (show ¬ (false = true) by decide)] at H; exact H
   clear H
   have H := H1
   clear H1
   have H' := Aside0.mk H
   clear H
   have hnb17 := NB247_248.out
   have hnc17 := NB248_247.out
   have hnb18 := NB247_249.out
   have hnc18 := NB249_247.out
   have hcz19_0 : w6.cell? ⟨gb247, 0, none⟩ = some (.slice A0_0 l0_0.length c0_0) := (blk_cell BK247.out 0).trans rfl
   have hcz19_1 : w6.cell? ⟨gb247, 1, none⟩ = some (.slice A0_1 l0_1.length c0_1) := (blk_cell BK247.out 1).trans rfl
   have hfz19_0 := blk_frozen BK247.out 0
   have hfz19_1 := blk_frozen BK247.out 1
   go_wp2_with (first | (go_at_call 36; (repeat rw [i64_w]); (with_reducible refine (impl_ArrayOk.calls k _ _ l0_0 _ _ l0_1 false _ ?side1 ?side2 ?side3 ?side4 A7.out).mono ?_); (case side1 => exact cU (Kd.C_below HR0_0.out HB.out)); (case side2 => exact HC0_0.out); (case side3 => exact cU (Kd.C_below HR0_1.out HB.out)); (case side4 => exact HC0_1.out); rintro e w20 ⟨rfl, hb⟩; replace BK247 := Aside0.mk (blk_below (g := gb247) (o := .cells #[.slice A0_0 l0_0.length c0_0, .slice A0_1 l0_1.length c0_1] 26 (0, 0)) (kU BK247.out) hb); replace BK248 := Aside0.mk (blk_below (g := gb248) (o := .cells #[.slice A1_0 l1_0.length c1_0, .slice A1_1 l1_1.length c1_1] 26 (0, 0)) (kU BK248.out) hb); replace BK249 := Aside0.mk (blk_below (g := gb249) (o := .cells #[.slice none 0 0, .slice none 0 0] 26 (0, 0)) (kU BK249.out) hb); replace HB := Aside0.mk (below_step (bS3 HB.out GE247.out GE248.out GE249.out) hb); (try clear hb); (try clear hb2); (try clear hk); (try clear hi)))
   repeat (go_quiet (fail); try go_wp2_with (first | (go_at_call 36; (repeat rw [i64_w]); (with_reducible refine (impl_ArrayOk.calls k _ _ l0_0 _ _ l0_1 false _ ?side1 ?side2 ?side3 ?side4 A7.out).mono ?_); (case side1 => exact cU (Kd.C_below HR0_0.out HB.out)); (case side2 => exact HC0_0.out); (case side3 => exact cU (Kd.C_below HR0_1.out HB.out)); (case side4 => exact HC0_1.out); rintro e w20 ⟨rfl, hb⟩; replace BK247 := Aside0.mk (blk_below (g := gb247) (o := .cells #[.slice A0_0 l0_0.length c0_0, .slice A0_1 l0_1.length c0_1] 26 (0, 0)) (kU BK247.out) hb); replace BK248 := Aside0.mk (blk_below (g := gb248) (o := .cells #[.slice A1_0 l1_0.length c1_0, .slice A1_1 l1_1.length c1_1] 26 (0, 0)) (kU BK248.out) hb); replace BK249 := Aside0.mk (blk_below (g := gb249) (o := .cells #[.slice none 0 0, .slice none 0 0] 26 (0, 0)) (kU BK249.out) hb); replace HB := Aside0.mk (below_step (bS3 HB.out GE247.out GE248.out GE249.out) hb); (try clear hb); (try clear hb2); (try clear hk); (try clear hi))))
   go_meet
   case rel => exact ⟨_, (true), (by first | rfl | (simp; done) | (simp [*]; done)), H', ⟨by first | omega | exact Nat.le_refl _⟩, ⟨by (with_reducible repeat (first | refine blk_drewN ?_ _ | refine blk_drew ?_ | refine blk_alloc ?_ _)); exact BK247.out⟩, ⟨by (with_reducible repeat (first | refine blk_drewN ?_ _ | refine blk_drew ?_ | refine blk_alloc ?_ _)); exact BK248.out⟩, ⟨by (with_reducible repeat (first | refine blk_drewN ?_ _ | refine blk_drew ?_ | refine blk_alloc ?_ _)); exact BK249.out⟩, ⟨by repeat (first | (with_reducible first | exact HB.out | apply below_alloc | apply pw_below_drewN | apply below_drew1 | refine below_set ?_ GE247.out | refine below_set ?_ GE248.out | refine below_set ?_ GE249.out) | exact HB.out)⟩⟩
 case rest =>
  clear HC3
  try clear c1
  try clear p2
  try clear c4
  try clear c8
  try clear c10
  try clear c11
  try clear c14
  try clear c17
  try clear c18
  try clear hcz12_0
  try clear hcz12_1
  try clear hcz15_0
  try clear hcz15_1
  try clear hcz19_0
  try clear hcz19_1
  try clear hfz12_0
  try clear hfz12_1
  try clear hfz15_0
  try clear hfz15_1
  try clear hfz19_0
  try clear hfz19_1
  obtain ⟨kq, x10_2, rfl, HA, HJ2, BK247, BK248, BK249, HB⟩ := hcut
  cases kq with
  | zero => exact absurd HA.out (by simp [impl_Copy.j0])
  | succ kj2 =>
   have H := HA.out
   clear HA
   simp only [impl_Copy.j0] at H
   by_cases c21 : x10_2 = true
   ·
    subst c21
    have H1 : (some (([] : List Int), ([] : List Int), 1)) = some (r1, r2, r3) := by rw [if_pos rfl] at H; exact H
    clear H
    have H := H1
    clear H1
    simp only [Option.some.injEq, Prod.mk.injEq] at H
    obtain ⟨rfl, rfl, rfl⟩ := H
    have hnb22 := NB249_247.out
    have hnc22 := NB247_249.out
    have hnb23 := NB249_248.out
    have hnc23 := NB248_249.out
    have hcz24_0 : wc.cell? ⟨gb249, 0, none⟩ = some (.slice none 0 0) := (blk_cell BK249.out 0).trans rfl
    have hcz24_1 : wc.cell? ⟨gb249, 1, none⟩ = some (.slice none 0 0) := (blk_cell BK249.out 1).trans rfl
    have hfz24_0 := blk_frozen BK249.out 0
    have hfz24_1 := blk_frozen BK249.out 1
    go_wp2
    repeat (go_quiet (fail); try go_wp2)
    refine bodyPost_ret (results_ct rfl _ _ gb249 26 #[.slice none 0 0, .slice none 0 0] (0, 0) _ rfl (by (with_reducible repeat (first | refine blk_drewN ?_ _ | refine blk_drew ?_ | refine blk_alloc ?_ _)); refine blk_put (cs := #[.slice none 0 0, .slice none 0 0]) ?_ 1 _ rfl; (with_reducible repeat (first | refine blk_drewN ?_ _ | refine blk_drew ?_ | refine blk_alloc ?_ _)); refine blk_put (cs := #[.slice none 0 0, .slice none 0 0]) ?_ 0 _ rfl; (with_reducible repeat (first | refine blk_drewN ?_ _ | refine blk_drew ?_ | refine blk_alloc ?_ _)); exact BK249.out) Try.underlying26 rfl (by kernel_rfl)) rfl ?_
    exact ⟨_, _, by first | rfl | (simp [errW_none, errW_some] <;> rfl) | (simp [*, errW_none, errW_some] <;> rfl), by first | exact Kd.R_nil _ _ _ _ _ | exact Kd.N_nil _ _ _ _ _ | exact Kd.V_nil _ _ _ _ _ | exact Kd.Q_nil _ _ _ _ _ | exact Kd.S_nil _ _ _ _ _, by first | exact Kd.R_nil _ _ _ _ _ | exact Kd.N_nil _ _ _ _ _ | exact Kd.V_nil _ _ _ _ _ | exact Kd.Q_nil _ _ _ _ _ | exact Kd.S_nil _ _ _ _ _, by repeat (first | (with_reducible first | exact HB.out | apply below_alloc | apply pw_below_drewN | apply below_drew1 | refine below_set ?_ GE247.out | refine below_set ?_ GE248.out | refine below_set ?_ GE249.out) | exact HB.out)⟩
   ·
    replace c21 := Bool.eq_false_iff.mpr c21
    subst c21
    have H1 : (if (l0_0.length : Int) > 1 then (impl_Copy.j1 kj2 true l0_0 l0_1 l1_0 l1_1) else (impl_Copy.j1 kj2 ((l1_0.length : Int) == 0) l0_0 l0_1 l1_0 l1_1)) = some (r1, r2, r3) := by rw [if_neg (show ¬ (false = true) by decide)] at H; exact H
    clear H
    have H := H1
    clear H1
    have HC25 := Aside0.mk H
    clear H
    go_upto_region 3 with (fail)
    repeat (go_quiet (fail); go_upto_region 3 with (fail))
    go_cut [20] (fun v20 wc => ∃ (kq : Nat) (x20_24 : Bool), v20 = .bool x20_24 ∧ Aside0 (impl_Copy.j1 kq x20_24 l0_0 l0_1 l1_0 l1_1 = some (r1, r2, r3)) ∧ Aside0 (kq ≤ kj2) ∧ Aside0 (wc.heap[gb247]? = some (.cells #[(.slice A0_0 l0_0.length c0_0), (.slice A0_1 l0_1.length c0_1)] 26 (0, 0))) ∧ Aside0 (wc.heap[gb248]? = some (.cells #[(.slice A1_0 l1_0.length c1_0), (.slice A1_1 l1_1.length c1_1)] 26 (0, 0))) ∧ Aside0 (wc.heap[gb249]? = some (.cells #[(.slice none 0 0), (.slice none 0 0)] 26 (0, 0))) ∧ Aside0 (Below w.heap.size w wc))
    case first =>
     have H := HC25.out
     clear HC25
     by_cases c26 : (l0_0.length : Int) > 1
     ·
      rw [if_pos c26] at H
      have c26b0 : decide (1 < (l0_0.length : Int)) = true := decide_eq_true c26
      have c26b1 : decide (1 < l0_0.length) = true := decide_eq_true (by omega)
      clear c26
      (first | rw [c26b0] | (simp only [i64_w, i32_w]; rw [c26b0]) | skip)
      have H' := Aside0.mk H
      clear H
      have hnb27 := NB247_248.out
      have hnc27 := NB248_247.out
      have hnb28 := NB247_249.out
      have hnc28 := NB249_247.out
      have hcz29_0 : wc.cell? ⟨gb247, 0, none⟩ = some (.slice A0_0 l0_0.length c0_0) := (blk_cell BK247.out 0).trans rfl
      have hcz29_1 : wc.cell? ⟨gb247, 1, none⟩ = some (.slice A0_1 l0_1.length c0_1) := (blk_cell BK247.out 1).trans rfl
      have hfz29_0 := blk_frozen BK247.out 0
      have hfz29_1 := blk_frozen BK247.out 1
      go_wp2
      repeat (go_quiet (fail); try go_wp2)
      go_meet
      case rel => exact ⟨_, (true), (by first | rfl | (simp; done) | (simp [*]; done)), H', ⟨by have := HJ2.out; first | omega | exact Nat.le_refl _⟩, ⟨by (with_reducible repeat (first | refine blk_drewN ?_ _ | refine blk_drew ?_ | refine blk_alloc ?_ _)); exact BK247.out⟩, ⟨by (with_reducible repeat (first | refine blk_drewN ?_ _ | refine blk_drew ?_ | refine blk_alloc ?_ _)); exact BK248.out⟩, ⟨by (with_reducible repeat (first | refine blk_drewN ?_ _ | refine blk_drew ?_ | refine blk_alloc ?_ _)); exact BK249.out⟩, ⟨by repeat (first | (with_reducible first | exact HB.out | apply below_alloc | apply pw_below_drewN | apply below_drew1 | refine below_set ?_ GE247.out | refine below_set ?_ GE248.out | refine below_set ?_ GE249.out) | exact HB.out)⟩⟩
     ·
      rw [if_neg c26] at H
      have c26b0 : decide (1 < (l0_0.length : Int)) = false := decide_eq_false c26
      have c26b1 : decide (1 < l0_0.length) = false := decide_eq_false (by omega)
      clear c26
      (first | rw [c26b0] | (simp only [i64_w, i32_w]; rw [c26b0]) | skip)
      have H' := Aside0.mk H
      clear H
      have hnb30 := NB247_248.out
      have hnc30 := NB248_247.out
      have hnb31 := NB247_249.out
      have hnc31 := NB249_247.out
      have hcz32_0 : wc.cell? ⟨gb247, 0, none⟩ = some (.slice A0_0 l0_0.length c0_0) := (blk_cell BK247.out 0).trans rfl
      have hcz32_1 : wc.cell? ⟨gb247, 1, none⟩ = some (.slice A0_1 l0_1.length c0_1) := (blk_cell BK247.out 1).trans rfl
      have hfz32_0 := blk_frozen BK247.out 0
      have hfz32_1 := blk_frozen BK247.out 1
      have hnb33 := NB248_249.out
      have hnc33 := NB249_248.out
      have hcz34_0 : wc.cell? ⟨gb248, 0, none⟩ = some (.slice A1_0 l1_0.length c1_0) := (blk_cell BK248.out 0).trans rfl
      have hcz34_1 : wc.cell? ⟨gb248, 1, none⟩ = some (.slice A1_1 l1_1.length c1_1) := (blk_cell BK248.out 1).trans rfl
      have hfz34_0 := blk_frozen BK248.out 0
      have hfz34_1 := blk_frozen BK248.out 1
      go_wp2
      repeat (go_quiet (fail); try go_wp2)
      go_meet
      case rel => exact ⟨_, (((l1_0.length : Int) == 0)), (by first | rfl | (simp; done) | (simp [*]; done)), H', ⟨by have := HJ2.out; first | omega | exact Nat.le_refl _⟩, ⟨by (with_reducible repeat (first | refine blk_drewN ?_ _ | refine blk_drew ?_ | refine blk_alloc ?_ _)); exact BK247.out⟩, ⟨by (with_reducible repeat (first | refine blk_drewN ?_ _ | refine blk_drew ?_ | refine blk_alloc ?_ _)); exact BK248.out⟩, ⟨by (with_reducible repeat (first | refine blk_drewN ?_ _ | refine blk_drew ?_ | refine blk_alloc ?_ _)); exact BK249.out⟩, ⟨by repeat (first | (with_reducible first | exact HB.out | apply below_alloc | apply pw_below_drewN | apply below_drew1 | refine below_set ?_ GE247.out | refine below_set ?_ GE248.out | refine below_set ?_ GE249.out) | exact HB.out)⟩⟩
    case rest =>
     clear HC25
     try clear c1
     try clear c2
     try clear p2
     try clear c3
     try clear c4
     try clear c8
     try clear c10
     try clear c11
     try clear c14
     try clear c17
     try clear c18
     try clear c21
     try clear c22
     try clear c23
     try clear c26
     try clear c26b0
     try clear c26b1
     try clear c27
     try clear c28
     try clear c30
     try clear c31
     try clear c33
     try clear hcz12_0
     try clear hcz12_1
     try clear hcz15_0
     try clear hcz15_1
     try clear hcz19_0
     try clear hcz19_1
     try clear hcz24_0
     try clear hcz24_1
     try clear hcz29_0
     try clear hcz29_1
     try clear hcz32_0
     try clear hcz32_1
     try clear hcz34_0
     try clear hcz34_1
     try clear hfz12_0
     try clear hfz12_1
     try clear hfz15_0
     try clear hfz15_1
     try clear hfz19_0
     try clear hfz19_1
     try clear hfz24_0
     try clear hfz24_1
     try clear hfz29_0
     try clear hfz29_1
     try clear hfz32_0
     try clear hfz32_1
     try clear hfz34_0
     try clear hfz34_1
     try clear p2
     obtain ⟨kq, x20_24, rfl, HA, HJ24, BK247, BK248, BK249, HB⟩ := hcut
     cases kq with
     | zero => exact absurd HA.out (by simp [impl_Copy.j1])
     | succ kj24 =>
      have H := HA.out
      clear HA
      simp only [impl_Copy.j1] at H
      by_cases c35 : x20_24 = true
      ·
       subst c35
       have H1 : (some (([] : List Int), ([] : List Int), 4)) = some (r1, r2, r3) := by rw [if_pos rfl] at H; exact H
       clear H
       have H := H1
       clear H1
       simp only [Option.some.injEq, Prod.mk.injEq] at H
       obtain ⟨rfl, rfl, rfl⟩ := H
       have hnb36 := NB249_247.out
       have hnc36 := NB247_249.out
       have hnb37 := NB249_248.out
       have hnc37 := NB248_249.out
       have hcz38_0 : wc.cell? ⟨gb249, 0, none⟩ = some (.slice none 0 0) := (blk_cell BK249.out 0).trans rfl
       have hcz38_1 : wc.cell? ⟨gb249, 1, none⟩ = some (.slice none 0 0) := (blk_cell BK249.out 1).trans rfl
       have hfz38_0 := blk_frozen BK249.out 0
       have hfz38_1 := blk_frozen BK249.out 1
       go_wp2
       repeat (go_quiet (fail); try go_wp2)
       refine bodyPost_ret (results_ct rfl _ _ gb249 26 #[.slice none 0 0, .slice none 0 0] (0, 0) _ rfl (by (with_reducible repeat (first | refine blk_drewN ?_ _ | refine blk_drew ?_ | refine blk_alloc ?_ _)); refine blk_put (cs := #[.slice none 0 0, .slice none 0 0]) ?_ 1 _ rfl; (with_reducible repeat (first | refine blk_drewN ?_ _ | refine blk_drew ?_ | refine blk_alloc ?_ _)); refine blk_put (cs := #[.slice none 0 0, .slice none 0 0]) ?_ 0 _ rfl; (with_reducible repeat (first | refine blk_drewN ?_ _ | refine blk_drew ?_ | refine blk_alloc ?_ _)); exact BK249.out) Try.underlying26 rfl (by kernel_rfl)) rfl ?_
       exact ⟨_, _, by first | rfl | (simp [errW_none, errW_some] <;> rfl) | (simp [*, errW_none, errW_some] <;> rfl), by first | exact Kd.R_nil _ _ _ _ _ | exact Kd.N_nil _ _ _ _ _ | exact Kd.V_nil _ _ _ _ _ | exact Kd.Q_nil _ _ _ _ _ | exact Kd.S_nil _ _ _ _ _, by first | exact Kd.R_nil _ _ _ _ _ | exact Kd.N_nil _ _ _ _ _ | exact Kd.V_nil _ _ _ _ _ | exact Kd.Q_nil _ _ _ _ _ | exact Kd.S_nil _ _ _ _ _, by repeat (first | (with_reducible first | exact HB.out | apply below_alloc | apply pw_below_drewN | apply below_drew1 | refine below_set ?_ GE247.out | refine below_set ?_ GE248.out | refine below_set ?_ GE249.out) | exact HB.out)⟩
      ·
       replace c35 := Bool.eq_false_iff.mpr c35
       subst c35
       have H1 : (if (l0_1.length : Int) = 1 then (impl_Copy.j2 kj24 false l0_0 l0_1 l1_0 l1_1) else (if 0 < (l1_0.length : Int) then (impl_Copy.j2 kj24 ((l0_1.length : Int) != (rd l1_0 0)) l0_0 l0_1 l1_0 l1_1) else (none))) = some (r1, r2, r3) := by rw [if_neg (show ¬ (false = true) by decide)] at H; exact H
       clear H
       have H := H1
       clear H1
       have HC39 := Aside0.mk H
       clear H
       go_upto_region 5 with (fail)
       repeat (go_quiet (fail); go_upto_region 5 with (fail))
       go_cut [32] (fun v32 wc => ∃ (kq : Nat) (x32_38 : Bool), v32 = .bool x32_38 ∧ Aside0 (impl_Copy.j2 kq x32_38 l0_0 l0_1 l1_0 l1_1 = some (r1, r2, r3)) ∧ Aside0 (kq ≤ kj24) ∧ Aside0 (wc.heap[gb247]? = some (.cells #[(.slice A0_0 l0_0.length c0_0), (.slice A0_1 l0_1.length c0_1)] 26 (0, 0))) ∧ Aside0 (wc.heap[gb248]? = some (.cells #[(.slice A1_0 l1_0.length c1_0), (.slice A1_1 l1_1.length c1_1)] 26 (0, 0))) ∧ Aside0 (wc.heap[gb249]? = some (.cells #[(.slice none 0 0), (.slice none 0 0)] 26 (0, 0))) ∧ Aside0 (Below w.heap.size w wc))
       case first =>
        have H := HC39.out
        clear HC39
        by_cases c40 : (l0_1.length : Int) = 1
        ·
         rw [if_pos c40] at H
         have c40b0 : ((l0_1.length : Int) == 1) = true := beq_iff_eq.mpr c40
         have c40b1 : ((l0_1.length : Int) != 1) = false := bne_eq_false_iff_eq.mpr c40
         clear c40
         (first | rw [c40b0] | (simp only [i64_w, i32_w]; rw [c40b0]) | skip)
         have H' := Aside0.mk H
         clear H
         have hnb41 := NB247_248.out
         have hnc41 := NB248_247.out
         have hnb42 := NB247_249.out
         have hnc42 := NB249_247.out
         have hcz43_0 : wc.cell? ⟨gb247, 0, none⟩ = some (.slice A0_0 l0_0.length c0_0) := (blk_cell BK247.out 0).trans rfl
         have hcz43_1 : wc.cell? ⟨gb247, 1, none⟩ = some (.slice A0_1 l0_1.length c0_1) := (blk_cell BK247.out 1).trans rfl
         have hfz43_0 := blk_frozen BK247.out 0
         have hfz43_1 := blk_frozen BK247.out 1
         go_wp2
         repeat (go_quiet (fail); try go_wp2)
         go_meet
         case rel => exact ⟨_, (false), (by first | rfl | (simp; done) | (simp [*]; done)), H', ⟨by have := HJ2.out; have := HJ24.out; first | omega | exact Nat.le_refl _⟩, ⟨by (with_reducible repeat (first | refine blk_drewN ?_ _ | refine blk_drew ?_ | refine blk_alloc ?_ _)); exact BK247.out⟩, ⟨by (with_reducible repeat (first | refine blk_drewN ?_ _ | refine blk_drew ?_ | refine blk_alloc ?_ _)); exact BK248.out⟩, ⟨by (with_reducible repeat (first | refine blk_drewN ?_ _ | refine blk_drew ?_ | refine blk_alloc ?_ _)); exact BK249.out⟩, ⟨by repeat (first | (with_reducible first | exact HB.out | apply below_alloc | apply pw_below_drewN | apply below_drew1 | refine below_set ?_ GE247.out | refine below_set ?_ GE248.out | refine below_set ?_ GE249.out) | exact HB.out)⟩⟩
        ·
         rw [if_neg c40] at H
         have c40b0 : ((l0_1.length : Int) == 1) = false := beq_eq_false_iff_ne.mpr c40
         have c40b1 : ((l0_1.length : Int) != 1) = true := bne_iff_ne.mpr c40
         (first | rw [c40b0] | (simp only [i64_w, i32_w]; rw [c40b0]) | skip)
         by_cases c44 : 0 < (l1_0.length : Int)
         ·
          rw [if_pos c44] at H
          have c44b0 : decide (0 < (l1_0.length : Int)) = true := decide_eq_true c44
          have c44b1 : decide (0 < l1_0.length) = true := decide_eq_true (by omega)
          clear c44
          have H' := Aside0.mk H
          clear H
          have hnb45 := NB247_248.out
          have hnc45 := NB248_247.out
          have hnb46 := NB247_249.out
          have hnc46 := NB249_247.out
          have hcz47_0 : wc.cell? ⟨gb247, 0, none⟩ = some (.slice A0_0 l0_0.length c0_0) := (blk_cell BK247.out 0).trans rfl
          have hcz47_1 : wc.cell? ⟨gb247, 1, none⟩ = some (.slice A0_1 l0_1.length c0_1) := (blk_cell BK247.out 1).trans rfl
          have hfz47_0 := blk_frozen BK247.out 0
          have hfz47_1 := blk_frozen BK247.out 1
          have hnb48 := NB248_249.out
          have hnc48 := NB249_248.out
          have hcz49_0 : wc.cell? ⟨gb248, 0, none⟩ = some (.slice A1_0 l1_0.length c1_0) := (blk_cell BK248.out 0).trans rfl
          have hcz49_1 : wc.cell? ⟨gb248, 1, none⟩ = some (.slice A1_1 l1_1.length c1_1) := (blk_cell BK248.out 1).trans rfl
          have hfz49_0 := blk_frozen BK248.out 0
          have hfz49_1 := blk_frozen BK248.out 1
          have p252 : 0 ≤ (0 : Int) := (by omega)
          have q252 : 0 < (l1_0.length : Int) := of_decide_eq_true (by first | (with_reducible assumption) | assumption)
          obtain ⟨ad252, e252, hx252_0⟩ := Kd.at_int HR1_0.out 0 p252 q252
          cases e252
          have qi252 : (0 < l1_0.length) = True := eq_true (by omega)
          (try rw [show ((0 : Int)).toNat = 0 from rfl] at hx252_0)
          (try rw [Addr.add_zero'] at hx252_0)
          replace hx252_0 := (HB.out.cell (World.block_lt_of_cell? w _ hx252_0)).trans hx252_0
          replace p252 := eq_true p252
          replace q252 := eq_true q252
          go_wp2
          repeat (go_quiet (fail); try go_wp2)
          go_meet
          case rel => exact ⟨_, (((l0_1.length : Int) != (rd l1_0 0))), (by first | rfl | (simp; done) | (simp [*]; done)), H', ⟨by have := HJ2.out; have := HJ24.out; first | omega | exact Nat.le_refl _⟩, ⟨by (with_reducible repeat (first | refine blk_drewN ?_ _ | refine blk_drew ?_ | refine blk_alloc ?_ _)); exact BK247.out⟩, ⟨by (with_reducible repeat (first | refine blk_drewN ?_ _ | refine blk_drew ?_ | refine blk_alloc ?_ _)); exact BK248.out⟩, ⟨by (with_reducible repeat (first | refine blk_drewN ?_ _ | refine blk_drew ?_ | refine blk_alloc ?_ _)); exact BK249.out⟩, ⟨by repeat (first | (with_reducible first | exact HB.out | apply below_alloc | apply pw_below_drewN | apply below_drew1 | refine below_set ?_ GE247.out | refine below_set ?_ GE248.out | refine below_set ?_ GE249.out) | exact HB.out)⟩⟩
         ·
          rw [if_neg c44] at H
          exact absurd H (by simp)
       case rest =>
        clear HC39
        try clear c1
        try clear c2
        try clear p2
        try clear q2
        try clear hx2
        try clear qi2
        try clear c3
        try clear c4
        try clear c8
        try clear c10
        try clear c11
        try clear c14
        try clear c17
        try clear c18
        try clear c21
        try clear c22
        try clear c23
        try clear p25
        try clear q25
        try clear hx25
        try clear qi25
        try clear c26
        try clear c26b0
        try clear c26b1
        try clear c27
        try clear c28
        try clear c30
        try clear c31
        try clear c33
        try clear c35
        try clear c36
        try clear c37
        try clear c40
        try clear c40b0
        try clear c40b1
        try clear c41
        try clear c42
        try clear c44
        try clear c44b0
        try clear c44b1
        try clear c45
        try clear c46
        try clear c48
        try clear hcz12_0
        try clear hcz12_1
        try clear hcz15_0
        try clear hcz15_1
        try clear hcz19_0
        try clear hcz19_1
        try clear hcz24_0
        try clear hcz24_1
        try clear hcz29_0
        try clear hcz29_1
        try clear hcz32_0
        try clear hcz32_1
        try clear hcz34_0
        try clear hcz34_1
        try clear hcz38_0
        try clear hcz38_1
        try clear hcz43_0
        try clear hcz43_1
        try clear hcz47_0
        try clear hcz47_1
        try clear hcz49_0
        try clear hcz49_1
        try clear hfz12_0
        try clear hfz12_1
        try clear hfz15_0
        try clear hfz15_1
        try clear hfz19_0
        try clear hfz19_1
        try clear hfz24_0
        try clear hfz24_1
        try clear hfz29_0
        try clear hfz29_1
        try clear hfz32_0
        try clear hfz32_1
        try clear hfz34_0
        try clear hfz34_1
        try clear hfz38_0
        try clear hfz38_1
        try clear hfz43_0
        try clear hfz43_1
        try clear hfz47_0
        try clear hfz47_1
        try clear hfz49_0
        try clear hfz49_1
        try clear hx252_0
        try clear p2
        try clear p252
        try clear q252
        obtain ⟨kq, x32_38, rfl, HA, HJ38, BK247, BK248, BK249, HB⟩ := hcut
        cases kq with
        | zero => exact absurd HA.out (by simp [impl_Copy.j2])
        | succ kj38 =>
         have H := HA.out
         clear HA
         simp only [impl_Copy.j2] at H
         by_cases c50 : x32_38 = true
         ·
          subst c50
          have H1 : (some (([] : List Int), ([] : List Int), 3)) = some (r1, r2, r3) := by rw [if_pos rfl] at H; exact H
          clear H
          have H := H1
          clear H1
          simp only [Option.some.injEq, Prod.mk.injEq] at H
          obtain ⟨rfl, rfl, rfl⟩ := H
          have hnb51 := NB249_247.out
          have hnc51 := NB247_249.out
          have hnb52 := NB249_248.out
          have hnc52 := NB248_249.out
          have hcz53_0 : wc.cell? ⟨gb249, 0, none⟩ = some (.slice none 0 0) := (blk_cell BK249.out 0).trans rfl
          have hcz53_1 : wc.cell? ⟨gb249, 1, none⟩ = some (.slice none 0 0) := (blk_cell BK249.out 1).trans rfl
          have hfz53_0 := blk_frozen BK249.out 0
          have hfz53_1 := blk_frozen BK249.out 1
          go_wp2
          repeat (go_quiet (fail); try go_wp2)
          refine bodyPost_ret (results_ct rfl _ _ gb249 26 #[.slice none 0 0, .slice none 0 0] (0, 0) _ rfl (by (with_reducible repeat (first | refine blk_drewN ?_ _ | refine blk_drew ?_ | refine blk_alloc ?_ _)); refine blk_put (cs := #[.slice none 0 0, .slice none 0 0]) ?_ 1 _ rfl; (with_reducible repeat (first | refine blk_drewN ?_ _ | refine blk_drew ?_ | refine blk_alloc ?_ _)); refine blk_put (cs := #[.slice none 0 0, .slice none 0 0]) ?_ 0 _ rfl; (with_reducible repeat (first | refine blk_drewN ?_ _ | refine blk_drew ?_ | refine blk_alloc ?_ _)); exact BK249.out) Try.underlying26 rfl (by kernel_rfl)) rfl ?_
          exact ⟨_, _, by first | rfl | (simp [errW_none, errW_some] <;> rfl) | (simp [*, errW_none, errW_some] <;> rfl), by first | exact Kd.R_nil _ _ _ _ _ | exact Kd.N_nil _ _ _ _ _ | exact Kd.V_nil _ _ _ _ _ | exact Kd.Q_nil _ _ _ _ _ | exact Kd.S_nil _ _ _ _ _, by first | exact Kd.R_nil _ _ _ _ _ | exact Kd.N_nil _ _ _ _ _ | exact Kd.V_nil _ _ _ _ _ | exact Kd.Q_nil _ _ _ _ _ | exact Kd.S_nil _ _ _ _ _, by repeat (first | (with_reducible first | exact HB.out | apply below_alloc | apply pw_below_drewN | apply below_drew1 | refine below_set ?_ GE247.out | refine below_set ?_ GE248.out | refine below_set ?_ GE249.out) | exact HB.out)⟩
         ·
          replace c50 := Bool.eq_false_iff.mpr c50
          subst c50
          have H1 : ((slices_ContainsFunc_Copy1.f kj38 l0_1).bind fun t253 => (if t253 = true then (some (([] : List Int), ([] : List Int), 2)) else ((impl_Rows.f kj38 l1_0 l1_1).bind fun t254 => (impl_Copy.l0 kj38 ([] : List (S26)) t254 (t254.length : Int) 0 l0_0 l0_1 l1_0 l1_1)))) = some (r1, r2, r3) := by rw [if_neg (show ¬ (false = true) by decide)] at H; exact H
          clear H
          have H := H1
          clear H1
          replace H := Option.bind_eq_some_iff.mp H
          obtain ⟨t253, A540, H⟩ := H
          replace H : (if t253 = true then (some (([] : List Int), ([] : List Int), 2)) else ((impl_Rows.f kj38 l1_0 l1_1).bind fun t254 => (impl_Copy.l0 kj38 ([] : List (S26)) t254 (t254.length : Int) 0 l0_0 l0_1 l1_0 l1_1))) = some (r1, r2, r3) := H
          have A54 := Aside0.mk A540
          clear A540
          by_cases c55 : t253 = true
          ·
           subst c55
           have H1 : (some (([] : List Int), ([] : List Int), 2)) = some (r1, r2, r3) := by rw [if_pos rfl] at H; exact H
           clear H
           have H := H1
           clear H1
           simp only [Option.some.injEq, Prod.mk.injEq] at H
           obtain ⟨rfl, rfl, rfl⟩ := H
           have hnb56 := NB247_248.out
           have hnc56 := NB248_247.out
           have hnb57 := NB247_249.out
           have hnc57 := NB249_247.out
           have hcz58_0 : wc.cell? ⟨gb247, 0, none⟩ = some (.slice A0_0 l0_0.length c0_0) := (blk_cell BK247.out 0).trans rfl
           have hcz58_1 : wc.cell? ⟨gb247, 1, none⟩ = some (.slice A0_1 l0_1.length c0_1) := (blk_cell BK247.out 1).trans rfl
           have hfz58_0 := blk_frozen BK247.out 0
           have hfz58_1 := blk_frozen BK247.out 1
           go_wp2_with (first | (go_at_call 71; (repeat rw [i64_w]); (with_reducible refine (slices_ContainsFunc_Copy1.calls kj38 _ _ l0_1 true _ ?side1 ?side2 A54.out).mono ?_); (case side1 => exact cU (Kd.C_below HR0_1.out HB.out)); (case side2 => exact HC0_1.out); rintro e w' ⟨rfl, ⟨nd, rfl⟩⟩; (try first | exact ⟨rfl, _, World.drewN_drewN _ _ _⟩ | exact ⟨rfl, _, Eq.trans (World.drewN_drewN _ _ _) (congrArg (World.drewN _) (Nat.add_assoc _ _ _))⟩); have hnb59 := NB249_248.out; have hnc59 := NB248_249.out; have hcz60_0 : wc.cell? ⟨gb249, 0, none⟩ = some (.slice none 0 0) := (blk_cell BK249.out 0).trans rfl; have hcz60_1 : wc.cell? ⟨gb249, 1, none⟩ = some (.slice none 0 0) := (blk_cell BK249.out 1).trans rfl; have hfz60_0 := blk_frozen BK249.out 0; have hfz60_1 := blk_frozen BK249.out 1))
           repeat (go_quiet ((go_at_call 71; (repeat rw [i64_w]); (with_reducible refine (slices_ContainsFunc_Copy1.calls kj38 _ _ l0_1 true _ ?side1 ?side2 A54.out).mono ?_); (case side1 => exact cU (Kd.C_below HR0_1.out HB.out)); (case side2 => exact HC0_1.out); rintro e w' ⟨rfl, ⟨nd, rfl⟩⟩; (try first | exact ⟨rfl, _, World.drewN_drewN _ _ _⟩ | exact ⟨rfl, _, Eq.trans (World.drewN_drewN _ _ _) (congrArg (World.drewN _) (Nat.add_assoc _ _ _))⟩); have hnb59 := NB249_248.out; have hnc59 := NB248_249.out; have hcz60_0 : wc.cell? ⟨gb249, 0, none⟩ = some (.slice none 0 0) := (blk_cell BK249.out 0).trans rfl; have hcz60_1 : wc.cell? ⟨gb249, 1, none⟩ = some (.slice none 0 0) := (blk_cell BK249.out 1).trans rfl; have hfz60_0 := blk_frozen BK249.out 0; have hfz60_1 := blk_frozen BK249.out 1)); try go_wp2_with (first | (go_at_call 71; (repeat rw [i64_w]); (with_reducible refine (slices_ContainsFunc_Copy1.calls kj38 _ _ l0_1 true _ ?side1 ?side2 A54.out).mono ?_); (case side1 => exact cU (Kd.C_below HR0_1.out HB.out)); (case side2 => exact HC0_1.out); rintro e w' ⟨rfl, ⟨nd, rfl⟩⟩; (try first | exact ⟨rfl, _, World.drewN_drewN _ _ _⟩ | exact ⟨rfl, _, Eq.trans (World.drewN_drewN _ _ _) (congrArg (World.drewN _) (Nat.add_assoc _ _ _))⟩); have hnb59 := NB249_248.out; have hnc59 := NB248_249.out; have hcz60_0 : wc.cell? ⟨gb249, 0, none⟩ = some (.slice none 0 0) := (blk_cell BK249.out 0).trans rfl; have hcz60_1 : wc.cell? ⟨gb249, 1, none⟩ = some (.slice none 0 0) := (blk_cell BK249.out 1).trans rfl; have hfz60_0 := blk_frozen BK249.out 0; have hfz60_1 := blk_frozen BK249.out 1)))
           refine bodyPost_ret (results_ct rfl _ _ gb249 26 #[.slice none 0 0, .slice none 0 0] (0, 0) _ rfl (by (with_reducible repeat (first | refine blk_drewN ?_ _ | refine blk_drew ?_ | refine blk_alloc ?_ _)); refine blk_put (cs := #[.slice none 0 0, .slice none 0 0]) ?_ 1 _ rfl; (with_reducible repeat (first | refine blk_drewN ?_ _ | refine blk_drew ?_ | refine blk_alloc ?_ _)); refine blk_put (cs := #[.slice none 0 0, .slice none 0 0]) ?_ 0 _ rfl; (with_reducible repeat (first | refine blk_drewN ?_ _ | refine blk_drew ?_ | refine blk_alloc ?_ _)); exact BK249.out) Try.underlying26 rfl (by kernel_rfl)) rfl ?_
           exact ⟨_, _, by first | rfl | (simp [errW_none, errW_some] <;> rfl) | (simp [*, errW_none, errW_some] <;> rfl), by first | exact Kd.R_nil _ _ _ _ _ | exact Kd.N_nil _ _ _ _ _ | exact Kd.V_nil _ _ _ _ _ | exact Kd.Q_nil _ _ _ _ _ | exact Kd.S_nil _ _ _ _ _, by first | exact Kd.R_nil _ _ _ _ _ | exact Kd.N_nil _ _ _ _ _ | exact Kd.V_nil _ _ _ _ _ | exact Kd.Q_nil _ _ _ _ _ | exact Kd.S_nil _ _ _ _ _, by repeat (first | (with_reducible first | exact HB.out | apply below_alloc | apply pw_below_drewN | apply below_drew1 | refine below_set ?_ GE247.out | refine below_set ?_ GE248.out | refine below_set ?_ GE249.out) | exact HB.out)⟩
          ·
           replace c55 := Bool.eq_false_iff.mpr c55
           subst c55
           have H1 : ((impl_Rows.f kj38 l1_0 l1_1).bind fun t254 => (impl_Copy.l0 kj38 ([] : List (S26)) t254 (t254.length : Int) 0 l0_0 l0_1 l1_0 l1_1)) = some (r1, r2, r3) := by rw [if_neg (show ¬ (false = true) by decide)] at H; exact H
           clear H
           have H := H1
           clear H1
           replace H := Option.bind_eq_some_iff.mp H
           obtain ⟨t254, A610, H⟩ := H
           replace H : (impl_Copy.l0 kj38 ([] : List (S26)) t254 (t254.length : Int) 0 l0_0 l0_1 l1_0 l1_1) = some (r1, r2, r3) := H
           have A61 := Aside0.mk A610
           clear A610
           have H' := Aside0.mk H
           clear H
           have hnb62 := NB247_248.out
           have hnc62 := NB248_247.out
           have hnb63 := NB247_249.out
           have hnc63 := NB249_247.out
           have hcz64_0 : wc.cell? ⟨gb247, 0, none⟩ = some (.slice A0_0 l0_0.length c0_0) := (blk_cell BK247.out 0).trans rfl
           have hcz64_1 : wc.cell? ⟨gb247, 1, none⟩ = some (.slice A0_1 l0_1.length c0_1) := (blk_cell BK247.out 1).trans rfl
           have hfz64_0 := blk_frozen BK247.out 0
           have hfz64_1 := blk_frozen BK247.out 1
           go_wp2_with (first | (go_at_call 71; (repeat rw [i64_w]); (with_reducible refine (slices_ContainsFunc_Copy1.calls kj38 _ _ l0_1 false _ ?side1 ?side2 A54.out).mono ?_); (case side1 => exact cU (Kd.C_below HR0_1.out HB.out)); (case side2 => exact HC0_1.out); rintro e w' ⟨rfl, ⟨nd, rfl⟩⟩; (try first | exact ⟨rfl, _, World.drewN_drewN _ _ _⟩ | exact ⟨rfl, _, Eq.trans (World.drewN_drewN _ _ _) (congrArg (World.drewN _) (Nat.add_assoc _ _ _))⟩); have hnb65 := NB248_249.out; have hnc65 := NB249_248.out; have hcz66_0 : wc.cell? ⟨gb248, 0, none⟩ = some (.slice A1_0 l1_0.length c1_0) := (blk_cell BK248.out 0).trans rfl; have hcz66_1 : wc.cell? ⟨gb248, 1, none⟩ = some (.slice A1_1 l1_1.length c1_1) := (blk_cell BK248.out 1).trans rfl; have hfz66_0 := blk_frozen BK248.out 0; have hfz66_1 := blk_frozen BK248.out 1) | (go_at_call 32; (repeat rw [i64_w]); (with_reducible refine (impl_Rows.calls kj38 _ _ l1_0 _ _ l1_1 t254 _ ?side1 ?side2 ?side3 ?side4 A61.out).mono ?_); (case side1 => repeat (first | exact (Kd.C_below HR1_0.out (bS3 HB.out GE247.out GE248.out GE249.out)) | (with_reducible refine Kd.C_alloc ?_ _) | (with_reducible refine Kd.C_drewN ?_ _) | (with_reducible refine Kd.C_drew ?_))); (case side2 => exact HC1_0.out); (case side3 => repeat (first | exact (Kd.C_below HR1_1.out (bS3 HB.out GE247.out GE248.out GE249.out)) | (with_reducible refine Kd.C_alloc ?_ _) | (with_reducible refine Kd.C_drewN ?_ _) | (with_reducible refine Kd.C_drew ?_))); (case side4 => exact HC1_1.out); rintro e w67 ⟨v255, rfl, ho0, hb⟩; have HO256 := Aside0.mk (Kd.N_lower (Kd.N_mono (ok' := fun k_ => k_ ≠ gb247 ∧ k_ ≠ gb248 ∧ k_ ≠ gb249) (Kd.S_N (Kd.S_bound ho0)) (fun k_ hk_ => ⟨(Kd.freshB (g := gb247) (o := .cells #[.slice A0_0 l0_0.length c0_0, .slice A0_1 l0_1.length c0_1] 26 (0, 0)) (kU BK247.out) k_ hk_.2.1), (Kd.freshB (g := gb248) (o := .cells #[.slice A1_0 l1_0.length c1_0, .slice A1_1 l1_1.length c1_1] 26 (0, 0)) (kU BK248.out) k_ hk_.2.1), (Kd.freshB (g := gb249) (o := .cells #[.slice none 0 0, .slice none 0 0] 26 (0, 0)) (kU BK249.out) k_ hk_.2.1)⟩)) (below_size (bS3 HB.out GE247.out GE248.out GE249.out))); replace BK247 := Aside0.mk (blk_below (g := gb247) (o := .cells #[.slice A0_0 l0_0.length c0_0, .slice A0_1 l0_1.length c0_1] 26 (0, 0)) (kU BK247.out) hb); replace BK248 := Aside0.mk (blk_below (g := gb248) (o := .cells #[.slice A1_0 l1_0.length c1_0, .slice A1_1 l1_1.length c1_1] 26 (0, 0)) (kU BK248.out) hb); replace BK249 := Aside0.mk (blk_below (g := gb249) (o := .cells #[.slice none 0 0, .slice none 0 0] 26 (0, 0)) (kU BK249.out) hb); replace HB := Aside0.mk (below_step (bS3 HB.out GE247.out GE248.out GE249.out) hb); (try clear hb); (try clear hb2); (try clear hk); (try clear hi); (try clear ho0); obtain ⟨Ao68, co68, eo68⟩ := Kd.N_slice HO256.out; subst eo68))
           repeat (go_quiet ((go_at_call 71; (repeat rw [i64_w]); (with_reducible refine (slices_ContainsFunc_Copy1.calls kj38 _ _ l0_1 false _ ?side1 ?side2 A54.out).mono ?_); (case side1 => exact cU (Kd.C_below HR0_1.out HB.out)); (case side2 => exact HC0_1.out); rintro e w' ⟨rfl, ⟨nd, rfl⟩⟩; (try first | exact ⟨rfl, _, World.drewN_drewN _ _ _⟩ | exact ⟨rfl, _, Eq.trans (World.drewN_drewN _ _ _) (congrArg (World.drewN _) (Nat.add_assoc _ _ _))⟩); have hnb65 := NB248_249.out; have hnc65 := NB249_248.out; have hcz66_0 : wc.cell? ⟨gb248, 0, none⟩ = some (.slice A1_0 l1_0.length c1_0) := (blk_cell BK248.out 0).trans rfl; have hcz66_1 : wc.cell? ⟨gb248, 1, none⟩ = some (.slice A1_1 l1_1.length c1_1) := (blk_cell BK248.out 1).trans rfl; have hfz66_0 := blk_frozen BK248.out 0; have hfz66_1 := blk_frozen BK248.out 1)); try go_wp2_with (first | (go_at_call 71; (repeat rw [i64_w]); (with_reducible refine (slices_ContainsFunc_Copy1.calls kj38 _ _ l0_1 false _ ?side1 ?side2 A54.out).mono ?_); (case side1 => exact cU (Kd.C_below HR0_1.out HB.out)); (case side2 => exact HC0_1.out); rintro e w' ⟨rfl, ⟨nd, rfl⟩⟩; (try first | exact ⟨rfl, _, World.drewN_drewN _ _ _⟩ | exact ⟨rfl, _, Eq.trans (World.drewN_drewN _ _ _) (congrArg (World.drewN _) (Nat.add_assoc _ _ _))⟩); have hnb65 := NB248_249.out; have hnc65 := NB249_248.out; have hcz66_0 : wc.cell? ⟨gb248, 0, none⟩ = some (.slice A1_0 l1_0.length c1_0) := (blk_cell BK248.out 0).trans rfl; have hcz66_1 : wc.cell? ⟨gb248, 1, none⟩ = some (.slice A1_1 l1_1.length c1_1) := (blk_cell BK248.out 1).trans rfl; have hfz66_0 := blk_frozen BK248.out 0; have hfz66_1 := blk_frozen BK248.out 1) | (go_at_call 32; (repeat rw [i64_w]); (with_reducible refine (impl_Rows.calls kj38 _ _ l1_0 _ _ l1_1 t254 _ ?side1 ?side2 ?side3 ?side4 A61.out).mono ?_); (case side1 => repeat (first | exact (Kd.C_below HR1_0.out (bS3 HB.out GE247.out GE248.out GE249.out)) | (with_reducible refine Kd.C_alloc ?_ _) | (with_reducible refine Kd.C_drewN ?_ _) | (with_reducible refine Kd.C_drew ?_))); (case side2 => exact HC1_0.out); (case side3 => repeat (first | exact (Kd.C_below HR1_1.out (bS3 HB.out GE247.out GE248.out GE249.out)) | (with_reducible refine Kd.C_alloc ?_ _) | (with_reducible refine Kd.C_drewN ?_ _) | (with_reducible refine Kd.C_drew ?_))); (case side4 => exact HC1_1.out); rintro e w67 ⟨v255, rfl, ho0, hb⟩; have HO256 := Aside0.mk (Kd.N_lower (Kd.N_mono (ok' := fun k_ => k_ ≠ gb247 ∧ k_ ≠ gb248 ∧ k_ ≠ gb249) (Kd.S_N (Kd.S_bound ho0)) (fun k_ hk_ => ⟨(Kd.freshB (g := gb247) (o := .cells #[.slice A0_0 l0_0.length c0_0, .slice A0_1 l0_1.length c0_1] 26 (0, 0)) (kU BK247.out) k_ hk_.2.1), (Kd.freshB (g := gb248) (o := .cells #[.slice A1_0 l1_0.length c1_0, .slice A1_1 l1_1.length c1_1] 26 (0, 0)) (kU BK248.out) k_ hk_.2.1), (Kd.freshB (g := gb249) (o := .cells #[.slice none 0 0, .slice none 0 0] 26 (0, 0)) (kU BK249.out) k_ hk_.2.1)⟩)) (below_size (bS3 HB.out GE247.out GE248.out GE249.out))); replace BK247 := Aside0.mk (blk_below (g := gb247) (o := .cells #[.slice A0_0 l0_0.length c0_0, .slice A0_1 l0_1.length c0_1] 26 (0, 0)) (kU BK247.out) hb); replace BK248 := Aside0.mk (blk_below (g := gb248) (o := .cells #[.slice A1_0 l1_0.length c1_0, .slice A1_1 l1_1.length c1_1] 26 (0, 0)) (kU BK248.out) hb); replace BK249 := Aside0.mk (blk_below (g := gb249) (o := .cells #[.slice none 0 0, .slice none 0 0] 26 (0, 0)) (kU BK249.out) hb); replace HB := Aside0.mk (below_step (bS3 HB.out GE247.out GE248.out GE249.out) hb); (try clear hb); (try clear hb2); (try clear hk); (try clear hi); (try clear ho0); obtain ⟨Ao68, co68, eo68⟩ := Kd.N_slice HO256.out; subst eo68)))
           go_loopg [6, 56] kj38 (fun kq v6 v56 w' => ∃ (x6_4 : List (S26)) (x56_4 : Int), v56 = .int .i64 x56_4 ∧ Aside0 (impl_Copy.l0 kq x6_4 t254 (t254.length : Int) x56_4 l0_0 l0_1 l1_0 l1_1 = some (r1, r2, r3)) ∧ Aside0 (kq ≤ kj38) ∧ Aside0 (Kd.N k26 26 w' w.heap.size (fun k_ => some k_ ≠ ((.slice Ao68 t254.length co68) : Value).ownBlock ∧ k_ ≠ gb247 ∧ k_ ≠ gb248 ∧ k_ ≠ gb249) v6 x6_4) ∧ Aside0 (Kd.N k26 26 w' w.heap.size (fun k_ => some k_ ≠ (v6 : Value).ownBlock ∧ k_ ≠ gb247 ∧ k_ ≠ gb248 ∧ k_ ≠ gb249) (.slice Ao68 t254.length co68) t254) ∧ Aside0 (w'.heap[gb247]? = some (.cells #[(.slice A0_0 l0_0.length c0_0), (.slice A0_1 l0_1.length c0_1)] 26 (0, 0))) ∧ Aside0 (w'.heap[gb248]? = some (.cells #[(.slice A1_0 l1_0.length c1_0), (.slice A1_1 l1_1.length c1_1)] 26 (0, 0))) ∧ Aside0 (w'.heap[gb249]? = some (.cells #[(.slice none 0 0), (.slice none 0 0)] 26 (0, 0))) ∧ Aside0 (Below w.heap.size w w'))
           case atStart => exact ⟨(([] : List (S26))), (0), (by first | rfl | (simp; done) | (simp [*]; done)), H', ⟨Nat.le_refl _⟩, ⟨by first | exact Kd.S_nil _ _ _ _ _ | exact Kd.N_nil _ _ _ _ _ | exact Kd.V_nil _ _ _ _ _ | exact Kd.Q_nil _ _ _ _ _ | exact Kd.R_nil _ _ _ _ _⟩, ⟨by (with_reducible repeat (first | apply Kd.N_alloc | apply Kd.N_drewN | apply Kd.N_drew)); exact Kd.N_mono HO256.out (fun _ hk => ⟨(by simp [Value.ownBlock]), ⟨hk.1, ⟨hk.2.1, hk.2.2⟩⟩⟩)⟩, ⟨by (with_reducible repeat (first | refine blk_drewN ?_ _ | refine blk_drew ?_ | refine blk_alloc ?_ _)); exact BK247.out⟩, ⟨by (with_reducible repeat (first | refine blk_drewN ?_ _ | refine blk_drew ?_ | refine blk_alloc ?_ _)); exact BK248.out⟩, ⟨by (with_reducible repeat (first | refine blk_drewN ?_ _ | refine blk_drew ?_ | refine blk_alloc ?_ _)); exact BK249.out⟩, ⟨by repeat (first | (with_reducible first | exact HB.out | apply below_alloc | apply pw_below_drewN | apply below_drew1 | refine below_set ?_ GE247.out | refine below_set ?_ GE248.out | refine below_set ?_ GE249.out) | exact HB.out)⟩⟩
           case round =>
            clear H'
            try clear c1
            try clear c2
            try clear p2
            try clear q2
            try clear hx2
            try clear qi2
            try clear c3
            try clear c4
            try clear c5
            try clear c6
            try clear c8
            try clear c10
            try clear c11
            try clear c14
            try clear c17
            try clear c18
            try clear c21
            try clear c22
            try clear c23
            try clear p25
            try clear q25
            try clear hx25
            try clear qi25
            try clear c26
            try clear c26b0
            try clear c26b1
            try clear c27
            try clear c28
            try clear c30
            try clear c31
            try clear c33
            try clear c35
            try clear c36
            try clear c37
            try clear c40
            try clear c40b0
            try clear c40b1
            try clear c41
            try clear c42
            try clear c44
            try clear c44b0
            try clear c44b1
            try clear c45
            try clear c46
            try clear c48
            try clear c50
            try clear c51
            try clear c52
            try clear c55
            try clear c56
            try clear c57
            try clear c59
            try clear c62
            try clear c63
            try clear c65
            try clear hcz12_0
            try clear hcz12_1
            try clear hcz15_0
            try clear hcz15_1
            try clear hcz19_0
            try clear hcz19_1
            try clear hcz24_0
            try clear hcz24_1
            try clear hcz29_0
            try clear hcz29_1
            try clear hcz32_0
            try clear hcz32_1
            try clear hcz34_0
            try clear hcz34_1
            try clear hcz38_0
            try clear hcz38_1
            try clear hcz43_0
            try clear hcz43_1
            try clear hcz47_0
            try clear hcz47_1
            try clear hcz49_0
            try clear hcz49_1
            try clear hcz53_0
            try clear hcz53_1
            try clear hcz58_0
            try clear hcz58_1
            try clear hcz60_0
            try clear hcz60_1
            try clear hcz64_0
            try clear hcz64_1
            try clear hcz66_0
            try clear hcz66_1
            try clear hfz12_0
            try clear hfz12_1
            try clear hfz15_0
            try clear hfz15_1
            try clear hfz19_0
            try clear hfz19_1
            try clear hfz24_0
            try clear hfz24_1
            try clear hfz29_0
            try clear hfz29_1
            try clear hfz32_0
            try clear hfz32_1
            try clear hfz34_0
            try clear hfz34_1
            try clear hfz38_0
            try clear hfz38_1
            try clear hfz43_0
            try clear hfz43_1
            try clear hfz47_0
            try clear hfz47_1
            try clear hfz49_0
            try clear hfz49_1
            try clear hfz53_0
            try clear hfz53_1
            try clear hfz58_0
            try clear hfz58_1
            try clear hfz60_0
            try clear hfz60_1
            try clear hfz64_0
            try clear hfz64_1
            try clear hfz66_0
            try clear hfz66_1
            try clear hx252_0
            try clear p2
            try clear p25
            try clear p252
            try clear q2
            try clear q25
            try clear q252
            obtain ⟨x6_4, x56_4, rfl, HA, HK4, HO_6, HO_54, BK247, BK248, BK249, HB⟩ := hrel
            cases gk with
            | zero => exact absurd HA.out (by simp [impl_Copy.l0])
            | succ k4 =>
             have H := HA.out
             clear HA
             simp only [impl_Copy.l0] at H
             by_cases c69 : x56_4 < (t254.length : Int)
             ·
              rw [if_pos c69] at H
              have c69b0 : decide (x56_4 < (t254.length : Int)) = true := decide_eq_true c69
              clear c69
              by_cases c70 : 0 ≤ x56_4
              ·
               rw [if_pos c70] at H
               have c70b0 : decide (0 ≤ x56_4) = true := decide_eq_true c70
               clear c70
               by_cases c71 : x56_4 < (t254.length : Int)
               ·
                rw [if_pos c71] at H
                have c71b0 : decide (x56_4 < (t254.length : Int)) = true := decide_eq_true c71
                clear c71
                by_cases c72 : 0 < (l0_1.length : Int)
                ·
                 rw [if_pos c72] at H
                 have c72b0 : decide (0 < (l0_1.length : Int)) = true := decide_eq_true c72
                 have c72b1 : decide (0 < l0_1.length) = true := decide_eq_true (by omega)
                 clear c72
                 have HC73 := Aside0.mk H
                 clear H
                 have p265 : 0 ≤ (x56_4 : Int) := of_decide_eq_true (by first | (with_reducible assumption) | assumption)
                 have q265 : x56_4 < (t254.length : Int) := of_decide_eq_true (by first | (with_reducible assumption) | assumption)
                 obtain ⟨ad265, A265_0, c265_0, A265_1, c265_1, e265, hx265_0, hx265_1, hl265_0, hi265_0, hl265_1, hi265_1⟩ := at_T26 (Kd.N_reads' HO_54.out).2.2 x56_4 p265 q265
                 cases e265
                 obtain ⟨ce265, hce265, hMe265, hcc265⟩ := Kd.N_get HO_54.out z26 x56_4 p265 (by first | exact q265 | exact of_decide_eq_true (by first | (with_reducible assumption) | assumption) | (have e_ := (Kd.N_reads' HO_54.out).1; omega))
                 obtain ⟨ua265_0, uc265_0, ua265_1, uc265_1, rfl, ul265_0, ge265_0, ul265_1, ge265_1⟩ := k26_openF hMe265
                 have hv265_0 := hcc265 0 _ rfl
                 rw [Nat.add_zero] at hv265_0
                 replace hv265_0 := Option.some.inj (hv265_0.symm.trans hx265_0)
                 injection hv265_0 with hva_ hvn_ hvc_
                 rw [hva_] at ge265_0
                 rw [hvc_] at ul265_0
                 have HL265_0 := Aside0.mk (show Kd.V (Kd.int .i64) 3 _ w.heap.size _ _ ((rd_T26 t254 x56_4).f0) from Kd.V_mk ul265_0 ge265_0)
                 clear hva_ hvn_ hvc_ ge265_0 ul265_0
                 have hv265_1 := hcc265 1 _ rfl
                 rw [add_field _ _ 1 (by omega)] at hv265_1
                 replace hv265_1 := Option.some.inj (hv265_1.symm.trans hx265_1)
                 injection hv265_1 with hva_ hvn_ hvc_
                 rw [hva_] at ge265_1
                 rw [hvc_] at ul265_1
                 have HL265_1 := Aside0.mk (show Kd.V (Kd.int .i64) 3 _ w.heap.size _ _ ((rd_T26 t254 x56_4).f1) from Kd.V_mk ul265_1 ge265_1)
                 clear hva_ hvn_ hvc_ ge265_1 ul265_1
                 clear hcc265 hce265
                 have HR265_0 := Aside0.mk hi265_0
                 have HC265_0 := Aside0.mk hl265_0
                 clear hi265_0 hl265_0
                 have HR265_1 := Aside0.mk hi265_1
                 have HC265_1 := Aside0.mk hl265_1
                 clear hi265_1 hl265_1
                 replace p265 := eq_true p265
                 replace q265 := eq_true q265
                 go_upto_if 68 with (first | ((with_reducible refine gate_dst (N := 8) rfl ?_); (try (refine gate_guard (by rfl) ?_; dsimp only)); refine box_event ?hg (N := 8) ?hd (cs := #[.slice none 0 0, .slice none 0 0]) (t := 26) ?hr ?_; (case hd => rfl); (case hg => rfl); (case hr => first | (go_simp; done) | (go_simp; rfl)); intro gb266 hg w74 hbox hb; replace HO_6 := Aside0.mk (Kd.N_below (Kd.N_elderB (NU HO_6.out) gb266 (Nat.le_of_eq hg.symm)) hb); replace HO_54 := Aside0.mk (Kd.N_below (Kd.N_elderB (NU HO_54.out) gb266 (Nat.le_of_eq hg.symm)) hb); replace HL265_0 := Aside0.mk (Kd.V_below (Kd.V_elderB (VU HL265_0.out) gb266 (Nat.le_of_eq hg.symm)) hb); replace HL265_1 := Aside0.mk (Kd.V_below (Kd.V_elderB (VU HL265_1.out) gb266 (Nat.le_of_eq hg.symm)) hb); replace HR265_0 := Aside0.mk (Kd.C_below (by repeat (first | (with_reducible exact HR265_0.out) | (with_reducible refine Kd.C_alloc ?_ _) | (with_reducible refine Kd.C_drewN ?_ _) | (with_reducible refine Kd.C_drew ?_) | exact HR265_0.out)) hb); replace HR265_1 := Aside0.mk (Kd.C_below (by repeat (first | (with_reducible exact HR265_1.out) | (with_reducible refine Kd.C_alloc ?_ _) | (with_reducible refine Kd.C_drewN ?_ _) | (with_reducible refine Kd.C_drew ?_) | exact HR265_1.out)) hb); have BK266 := Aside0.mk (hbox); have GW266 := Aside0.mk ((by rw [hg]; exact (below_size (bS3 HB.out GE247.out GE248.out GE249.out)) : w.heap.size ≤ gb266)); have GE266 := Aside0.mk ((by rw [hg]; exact (below_size (bS3 HB.out GE247.out GE248.out GE249.out)) : w.heap.size ≤ gb266)); replace HB := Aside0.mk (below_step (bS3 HB.out GE247.out GE248.out GE249.out) hb); have NB247_266 := Aside0.mk ((by rw [hg]; exact Nat.ne_of_lt (blk_lt (g := gb247) (o := .cells #[.slice A0_0 l0_0.length c0_0, .slice A0_1 l0_1.length c0_1] 26 (0, 0)) (kU BK247.out)) : gb247 ≠ gb266)); have NB266_247 := Aside0.mk ((by rw [hg]; exact Nat.ne_of_gt (blk_lt (g := gb247) (o := .cells #[.slice A0_0 l0_0.length c0_0, .slice A0_1 l0_1.length c0_1] 26 (0, 0)) (kU BK247.out)) : gb266 ≠ gb247)); replace BK247 := Aside0.mk (blk_below (g := gb247) (o := .cells #[.slice A0_0 l0_0.length c0_0, .slice A0_1 l0_1.length c0_1] 26 (0, 0)) (kU BK247.out) hb); have NB248_266 := Aside0.mk ((by rw [hg]; exact Nat.ne_of_lt (blk_lt (g := gb248) (o := .cells #[.slice A1_0 l1_0.length c1_0, .slice A1_1 l1_1.length c1_1] 26 (0, 0)) (kU BK248.out)) : gb248 ≠ gb266)); have NB266_248 := Aside0.mk ((by rw [hg]; exact Nat.ne_of_gt (blk_lt (g := gb248) (o := .cells #[.slice A1_0 l1_0.length c1_0, .slice A1_1 l1_1.length c1_1] 26 (0, 0)) (kU BK248.out)) : gb266 ≠ gb248)); replace BK248 := Aside0.mk (blk_below (g := gb248) (o := .cells #[.slice A1_0 l1_0.length c1_0, .slice A1_1 l1_1.length c1_1] 26 (0, 0)) (kU BK248.out) hb); have NB249_266 := Aside0.mk ((by rw [hg]; exact Nat.ne_of_lt (blk_lt (g := gb249) (o := .cells #[.slice none 0 0, .slice none 0 0] 26 (0, 0)) (kU BK249.out)) : gb249 ≠ gb266)); have NB266_249 := Aside0.mk ((by rw [hg]; exact Nat.ne_of_gt (blk_lt (g := gb249) (o := .cells #[.slice none 0 0, .slice none 0 0] 26 (0, 0)) (kU BK249.out)) : gb266 ≠ gb249)); replace BK249 := Aside0.mk (blk_below (g := gb249) (o := .cells #[.slice none 0 0, .slice none 0 0] 26 (0, 0)) (kU BK249.out) hb); clear hb hbox hg; have hnb75 := NB266_247.out; have hnc75 := NB247_266.out; have hnb76 := NB266_248.out; have hnc76 := NB248_266.out; have hnb77 := NB266_249.out; have hnc77 := NB249_266.out; have hcz78_0 : w74.cell? ⟨gb266, 0, none⟩ = some (.slice none 0 0) := (blk_cell BK266.out 0).trans rfl; have hcz78_1 : w74.cell? ⟨gb266, 1, none⟩ = some (.slice none 0 0) := (blk_cell BK266.out 1).trans rfl; have hfz78_0 := blk_frozen BK266.out 0; have hfz78_1 := blk_frozen BK266.out 1; have hnb79 := NB247_248.out; have hnc79 := NB248_247.out; have hnb80 := NB247_249.out; have hnc80 := NB249_247.out; have hcz81_0 : w74.cell? ⟨gb247, 0, none⟩ = some (.slice A0_0 l0_0.length c0_0) := (blk_cell BK247.out 0).trans rfl; have hcz81_1 : w74.cell? ⟨gb247, 1, none⟩ = some (.slice A0_1 l0_1.length c0_1) := (blk_cell BK247.out 1).trans rfl; have hfz81_0 := blk_frozen BK247.out 0; have hfz81_1 := blk_frozen BK247.out 1; have p267 : 0 ≤ (0 : Int) := (by omega); have q267 : 0 < (l0_1.length : Int) := of_decide_eq_true (by first | (with_reducible assumption) | assumption); obtain ⟨ad267, e267, hx267_0⟩ := Kd.at_int HR0_1.out 0 p267 q267; cases e267; have qi267 : (0 < l0_1.length) = True := eq_true (by omega); (try rw [show ((0 : Int)).toNat = 0 from rfl] at hx267_0); (try rw [Addr.add_zero'] at hx267_0); have hn267_0 : ad267.block ≠ gb266 := Nat.ne_of_lt (Nat.lt_of_lt_of_le (by have := World.block_lt_of_cell? _ _ hx267_0; first | rwa [add_block] at this | exact this) GW266.out); have hn267_1 : ad267.block ≠ gb266 := Nat.ne_of_lt (Nat.lt_of_lt_of_le (by have := World.block_lt_of_cell? _ _ hx267_0; first | rwa [add_block] at this | exact this) GW266.out); replace hx267_0 := (HB.out.cell (World.block_lt_of_cell? w _ hx267_0)).trans hx267_0; replace hx267_0 := (cell_far (p := ⟨gb266, 0, none⟩) (by first | (rw [add_block]; exact hn267_0) | (show (Addr.add _ _).block ≠ _; rw [add_block]; exact hn267_0) | exact hn267_0) (.slice A265_0 ((rd_T26 t254 x56_4).f0).length c265_0)).trans hx267_0; replace hx267_0 := (cell_far (p := ⟨gb266, 1, none⟩) (by first | (rw [add_block]; exact hn267_1) | (show (Addr.add _ _).block ≠ _; rw [add_block]; exact hn267_1) | exact hn267_1) (.slice A265_1 ((rd_T26 t254 x56_4).f1).length c265_1)).trans hx267_0; (try have hy267_0 := fun (n_ : Nat) => (show ((((w74.drewN n_).setCell ⟨gb266, 0, none⟩ (.slice A265_0 ((rd_T26 t254 x56_4).f0).length c265_0)).setCell ⟨gb266, 1, none⟩ (.slice A265_1 ((rd_T26 t254 x56_4).f1).length c265_1))).cell? _ = some _ from hx267_0)); clear hn267_0; clear hn267_1; replace p267 := eq_true p267; replace q267 := eq_true q267))
                 repeat (go_quiet (fail); go_upto_if 68 with (first | ((with_reducible refine gate_dst (N := 8) rfl ?_); (try (refine gate_guard (by rfl) ?_; dsimp only)); refine box_event ?hg (N := 8) ?hd (cs := #[.slice none 0 0, .slice none 0 0]) (t := 26) ?hr ?_; (case hd => rfl); (case hg => rfl); (case hr => first | (go_simp; done) | (go_simp; rfl)); intro gb266 hg w74 hbox hb; replace HO_6 := Aside0.mk (Kd.N_below (Kd.N_elderB (NU HO_6.out) gb266 (Nat.le_of_eq hg.symm)) hb); replace HO_54 := Aside0.mk (Kd.N_below (Kd.N_elderB (NU HO_54.out) gb266 (Nat.le_of_eq hg.symm)) hb); replace HL265_0 := Aside0.mk (Kd.V_below (Kd.V_elderB (VU HL265_0.out) gb266 (Nat.le_of_eq hg.symm)) hb); replace HL265_1 := Aside0.mk (Kd.V_below (Kd.V_elderB (VU HL265_1.out) gb266 (Nat.le_of_eq hg.symm)) hb); replace HR265_0 := Aside0.mk (Kd.C_below (by repeat (first | (with_reducible exact HR265_0.out) | (with_reducible refine Kd.C_alloc ?_ _) | (with_reducible refine Kd.C_drewN ?_ _) | (with_reducible refine Kd.C_drew ?_) | exact HR265_0.out)) hb); replace HR265_1 := Aside0.mk (Kd.C_below (by repeat (first | (with_reducible exact HR265_1.out) | (with_reducible refine Kd.C_alloc ?_ _) | (with_reducible refine Kd.C_drewN ?_ _) | (with_reducible refine Kd.C_drew ?_) | exact HR265_1.out)) hb); have BK266 := Aside0.mk (hbox); have GW266 := Aside0.mk ((by rw [hg]; exact (below_size (bS3 HB.out GE247.out GE248.out GE249.out)) : w.heap.size ≤ gb266)); have GE266 := Aside0.mk ((by rw [hg]; exact (below_size (bS3 HB.out GE247.out GE248.out GE249.out)) : w.heap.size ≤ gb266)); replace HB := Aside0.mk (below_step (bS3 HB.out GE247.out GE248.out GE249.out) hb); have NB247_266 := Aside0.mk ((by rw [hg]; exact Nat.ne_of_lt (blk_lt (g := gb247) (o := .cells #[.slice A0_0 l0_0.length c0_0, .slice A0_1 l0_1.length c0_1] 26 (0, 0)) (kU BK247.out)) : gb247 ≠ gb266)); have NB266_247 := Aside0.mk ((by rw [hg]; exact Nat.ne_of_gt (blk_lt (g := gb247) (o := .cells #[.slice A0_0 l0_0.length c0_0, .slice A0_1 l0_1.length c0_1] 26 (0, 0)) (kU BK247.out)) : gb266 ≠ gb247)); replace BK247 := Aside0.mk (blk_below (g := gb247) (o := .cells #[.slice A0_0 l0_0.length c0_0, .slice A0_1 l0_1.length c0_1] 26 (0, 0)) (kU BK247.out) hb); have NB248_266 := Aside0.mk ((by rw [hg]; exact Nat.ne_of_lt (blk_lt (g := gb248) (o := .cells #[.slice A1_0 l1_0.length c1_0, .slice A1_1 l1_1.length c1_1] 26 (0, 0)) (kU BK248.out)) : gb248 ≠ gb266)); have NB266_248 := Aside0.mk ((by rw [hg]; exact Nat.ne_of_gt (blk_lt (g := gb248) (o := .cells #[.slice A1_0 l1_0.length c1_0, .slice A1_1 l1_1.length c1_1] 26 (0, 0)) (kU BK248.out)) : gb266 ≠ gb248)); replace BK248 := Aside0.mk (blk_below (g := gb248) (o := .cells #[.slice A1_0 l1_0.length c1_0, .slice A1_1 l1_1.length c1_1] 26 (0, 0)) (kU BK248.out) hb); have NB249_266 := Aside0.mk ((by rw [hg]; exact Nat.ne_of_lt (blk_lt (g := gb249) (o := .cells #[.slice none 0 0, .slice none 0 0] 26 (0, 0)) (kU BK249.out)) : gb249 ≠ gb266)); have NB266_249 := Aside0.mk ((by rw [hg]; exact Nat.ne_of_gt (blk_lt (g := gb249) (o := .cells #[.slice none 0 0, .slice none 0 0] 26 (0, 0)) (kU BK249.out)) : gb266 ≠ gb249)); replace BK249 := Aside0.mk (blk_below (g := gb249) (o := .cells #[.slice none 0 0, .slice none 0 0] 26 (0, 0)) (kU BK249.out) hb); clear hb hbox hg; have hnb75 := NB266_247.out; have hnc75 := NB247_266.out; have hnb76 := NB266_248.out; have hnc76 := NB248_266.out; have hnb77 := NB266_249.out; have hnc77 := NB249_266.out; have hcz78_0 : w74.cell? ⟨gb266, 0, none⟩ = some (.slice none 0 0) := (blk_cell BK266.out 0).trans rfl; have hcz78_1 : w74.cell? ⟨gb266, 1, none⟩ = some (.slice none 0 0) := (blk_cell BK266.out 1).trans rfl; have hfz78_0 := blk_frozen BK266.out 0; have hfz78_1 := blk_frozen BK266.out 1; have hnb79 := NB247_248.out; have hnc79 := NB248_247.out; have hnb80 := NB247_249.out; have hnc80 := NB249_247.out; have hcz81_0 : w74.cell? ⟨gb247, 0, none⟩ = some (.slice A0_0 l0_0.length c0_0) := (blk_cell BK247.out 0).trans rfl; have hcz81_1 : w74.cell? ⟨gb247, 1, none⟩ = some (.slice A0_1 l0_1.length c0_1) := (blk_cell BK247.out 1).trans rfl; have hfz81_0 := blk_frozen BK247.out 0; have hfz81_1 := blk_frozen BK247.out 1; have p267 : 0 ≤ (0 : Int) := (by omega); have q267 : 0 < (l0_1.length : Int) := of_decide_eq_true (by first | (with_reducible assumption) | assumption); obtain ⟨ad267, e267, hx267_0⟩ := Kd.at_int HR0_1.out 0 p267 q267; cases e267; have qi267 : (0 < l0_1.length) = True := eq_true (by omega); (try rw [show ((0 : Int)).toNat = 0 from rfl] at hx267_0); (try rw [Addr.add_zero'] at hx267_0); have hn267_0 : ad267.block ≠ gb266 := Nat.ne_of_lt (Nat.lt_of_lt_of_le (by have := World.block_lt_of_cell? _ _ hx267_0; first | rwa [add_block] at this | exact this) GW266.out); have hn267_1 : ad267.block ≠ gb266 := Nat.ne_of_lt (Nat.lt_of_lt_of_le (by have := World.block_lt_of_cell? _ _ hx267_0; first | rwa [add_block] at this | exact this) GW266.out); replace hx267_0 := (HB.out.cell (World.block_lt_of_cell? w _ hx267_0)).trans hx267_0; replace hx267_0 := (cell_far (p := ⟨gb266, 0, none⟩) (by first | (rw [add_block]; exact hn267_0) | (show (Addr.add _ _).block ≠ _; rw [add_block]; exact hn267_0) | exact hn267_0) (.slice A265_0 ((rd_T26 t254 x56_4).f0).length c265_0)).trans hx267_0; replace hx267_0 := (cell_far (p := ⟨gb266, 1, none⟩) (by first | (rw [add_block]; exact hn267_1) | (show (Addr.add _ _).block ≠ _; rw [add_block]; exact hn267_1) | exact hn267_1) (.slice A265_1 ((rd_T26 t254 x56_4).f1).length c265_1)).trans hx267_0; (try have hy267_0 := fun (n_ : Nat) => (show ((((w74.drewN n_).setCell ⟨gb266, 0, none⟩ (.slice A265_0 ((rd_T26 t254 x56_4).f0).length c265_0)).setCell ⟨gb266, 1, none⟩ (.slice A265_1 ((rd_T26 t254 x56_4).f1).length c265_1))).cell? _ = some _ from hx267_0)); clear hn267_0; clear hn267_1; replace p267 := eq_true p267; replace q267 := eq_true q267)))
                 (try simp only [Act.put, List.setIfInBounds_toArray, List.set_cons_zero, List.set_cons_succ])
                 go_cut [9] (fun v9 wc => ∃ (kq : Nat) (x9_72 : Int), v9 = .int .i64 x9_72 ∧ Aside0 (impl_Copy.j4 kq x6_4 x9_72 t254 (t254.length : Int) x56_4 l0_0 l0_1 l1_0 l1_1 ((rd_T26 t254 x56_4).f0) ((rd_T26 t254 x56_4).f1) = some (r1, r2, r3)) ∧ Aside0 (kq ≤ k4) ∧ Aside0 (Kd.N k26 26 wc w.heap.size (fun k_ => some k_ ≠ ((.slice (some ad265) t254.length co68) : Value).ownBlock ∧ k_ ≠ gb247 ∧ k_ ≠ gb248 ∧ k_ ≠ gb249 ∧ k_ ≠ gb266) u6 x6_4) ∧ Aside0 (Kd.N k26 26 wc w.heap.size (fun k_ => some k_ ≠ (u6 : Value).ownBlock ∧ k_ ≠ gb247 ∧ k_ ≠ gb248 ∧ k_ ≠ gb249 ∧ k_ ≠ gb266) (.slice (some ad265) t254.length co68) t254) ∧ Aside0 (Kd.V (Kd.int .i64) 3 wc w.heap.size (fun k_ => some k_ ≠ (u6 : Value).ownBlock ∧ some k_ ≠ ((.slice (some ad265) t254.length co68) : Value).ownBlock ∧ k_ ≠ gb247 ∧ k_ ≠ gb248 ∧ k_ ≠ gb249 ∧ k_ ≠ gb266) (.slice A265_0 ((rd_T26 t254 x56_4).f0).length c265_0) ((rd_T26 t254 x56_4).f0)) ∧ Aside0 (Kd.V (Kd.int .i64) 3 wc w.heap.size (fun k_ => some k_ ≠ (u6 : Value).ownBlock ∧ some k_ ≠ ((.slice (some ad265) t254.length co68) : Value).ownBlock ∧ k_ ≠ gb247 ∧ k_ ≠ gb248 ∧ k_ ≠ gb249 ∧ k_ ≠ gb266) (.slice A265_1 ((rd_T26 t254 x56_4).f1).length c265_1) ((rd_T26 t254 x56_4).f1)) ∧ Aside0 (wc.heap[gb247]? = some (.cells #[(.slice A0_0 l0_0.length c0_0), (.slice (some ad267) l0_1.length c0_1)] 26 (0, 0))) ∧ Aside0 (wc.heap[gb248]? = some (.cells #[(.slice A1_0 l1_0.length c1_0), (.slice A1_1 l1_1.length c1_1)] 26 (0, 0))) ∧ Aside0 (wc.heap[gb249]? = some (.cells #[(.slice none 0 0), (.slice none 0 0)] 26 (0, 0))) ∧ Aside0 (wc.heap[gb266]? = some (.cells #[(.slice A265_0 ((rd_T26 t254 x56_4).f0).length c265_0), (.slice A265_1 ((rd_T26 t254 x56_4).f1).length c265_1)] 26 (0, 0))) ∧ Aside0 (Kd.C (Kd.int .i64) wc A265_0 ((rd_T26 t254 x56_4).f0).length ((rd_T26 t254 x56_4).f0)) ∧ Aside0 (Kd.C (Kd.int .i64) wc A265_1 ((rd_T26 t254 x56_4).f1).length ((rd_T26 t254 x56_4).f1)) ∧ Aside0 (Below w.heap.size w wc))
                 case first =>
                  have H := HC73.out
                  clear HC73
                  by_cases c82 : (l0_1.length : Int) > 1
                  ·
                   rw [if_pos c82] at H
                   have c82b0 : decide (1 < (l0_1.length : Int)) = true := decide_eq_true c82
                   have c82b1 : decide (1 < l0_1.length) = true := decide_eq_true (by omega)
                   clear c82
                   (first | rw [c82b0] | (simp only [i64_w, i32_w]; rw [c82b0]) | skip)
                   by_cases c83 : x56_4 < (l0_1.length : Int)
                   ·
                    rw [if_pos c83] at H
                    have c83b0 : decide (x56_4 < (l0_1.length : Int)) = true := decide_eq_true c83
                    clear c83
                    have H' := Aside0.mk H
                    clear H
                    have hnb84 := NB247_248.out
                    have hnc84 := NB248_247.out
                    have hnb85 := NB247_249.out
                    have hnc85 := NB249_247.out
                    have hnb86 := NB247_266.out
                    have hnc86 := NB266_247.out
                    have hcz87_0 : w74.cell? ⟨gb247, 0, none⟩ = some (.slice A0_0 l0_0.length c0_0) := (blk_cell BK247.out 0).trans rfl
                    have hcz87_1 : w74.cell? ⟨gb247, 1, none⟩ = some (.slice (some ad267) l0_1.length c0_1) := (blk_cell BK247.out 1).trans rfl
                    have hfz87_0 := blk_frozen BK247.out 0
                    have hfz87_1 := blk_frozen BK247.out 1
                    have p268 : 0 ≤ (x56_4 : Int) := of_decide_eq_true (by first | (with_reducible assumption) | assumption)
                    have q268 : x56_4 < (l0_1.length : Int) := of_decide_eq_true (by first | (with_reducible assumption) | assumption)
                    obtain ⟨ad268, e268, hx268_0⟩ := Kd.at_int HR0_1.out x56_4 p268 q268
                    obtain rfl : ad267 = ad268 := (by injection e268)
                    have hn268_0 : ad267.block ≠ gb266 := Nat.ne_of_lt (Nat.lt_of_lt_of_le (by have := World.block_lt_of_cell? _ _ hx268_0; first | rwa [add_block] at this | exact this) GW266.out)
                    have hn268_1 : ad267.block ≠ gb266 := Nat.ne_of_lt (Nat.lt_of_lt_of_le (by have := World.block_lt_of_cell? _ _ hx268_0; first | rwa [add_block] at this | exact this) GW266.out)
                    replace hx268_0 := (HB.out.cell (World.block_lt_of_cell? w _ hx268_0)).trans hx268_0
                    replace hx268_0 := (cell_far (p := ⟨gb266, 0, none⟩) (by first | (rw [add_block]; exact hn268_0) | (show (Addr.add _ _).block ≠ _; rw [add_block]; exact hn268_0) | exact hn268_0) (.slice A265_0 ((rd_T26 t254 x56_4).f0).length c265_0)).trans hx268_0
                    replace hx268_0 := (cell_far (p := ⟨gb266, 1, none⟩) (by first | (rw [add_block]; exact hn268_1) | (show (Addr.add _ _).block ≠ _; rw [add_block]; exact hn268_1) | exact hn268_1) (.slice A265_1 ((rd_T26 t254 x56_4).f1).length c265_1)).trans hx268_0
                    (try have hy268_0 := fun (n_ : Nat) => (show ((((w74.drewN n_).setCell ⟨gb266, 0, none⟩ (.slice A265_0 ((rd_T26 t254 x56_4).f0).length c265_0)).setCell ⟨gb266, 1, none⟩ (.slice A265_1 ((rd_T26 t254 x56_4).f1).length c265_1))).cell? _ = some _ from hx268_0))
                    clear hn268_0 hn268_1
                    replace p268 := eq_true p268
                    replace q268 := eq_true q268
                    go_wp2
                    repeat (go_quiet (fail); try go_wp2)
                    go_meet
                    case rel => exact ⟨_, (rd l0_1 x56_4), (by first | rfl | (simp; done) | (simp [*]; done)), H', ⟨by have := HJ2.out; have := HJ24.out; have := HJ38.out; have := HK4.out; first | omega | exact Nat.le_refl _⟩, ⟨by (with_reducible repeat (first | apply Kd.N_alloc | apply Kd.N_drewN | apply Kd.N_drew)); exact Kd.N_mono (Kd.N_far (p := ⟨gb266, 1, none⟩) (Kd.N_far (p := ⟨gb266, 0, none⟩) (Kd.N_mono HO_6.out (fun k_ hk => (⟨hk, hk.2⟩ : _ ∧ k_ ≠ gb266))) (fun _ hk => hk.2) (.slice A265_0 ((rd_T26 t254 x56_4).f0).length c265_0)) (fun _ hk => hk.2) (.slice A265_1 ((rd_T26 t254 x56_4).f1).length c265_1)) (fun _ hk => ⟨hk.1.1.1, ⟨hk.1.1.2.1, ⟨hk.1.1.2.2.1, ⟨hk.1.1.2.2.2, hk.1.2⟩⟩⟩⟩)⟩, ⟨by (with_reducible repeat (first | apply Kd.N_alloc | apply Kd.N_drewN | apply Kd.N_drew)); exact Kd.N_mono (Kd.N_far (p := ⟨gb266, 1, none⟩) (Kd.N_far (p := ⟨gb266, 0, none⟩) (Kd.N_mono HO_54.out (fun k_ hk => (⟨hk, hk.2⟩ : _ ∧ k_ ≠ gb266))) (fun _ hk => hk.2) (.slice A265_0 ((rd_T26 t254 x56_4).f0).length c265_0)) (fun _ hk => hk.2) (.slice A265_1 ((rd_T26 t254 x56_4).f1).length c265_1)) (fun _ hk => ⟨hk.1.1.1, ⟨hk.1.1.2.1, ⟨hk.1.1.2.2.1, ⟨hk.1.1.2.2.2, hk.1.2⟩⟩⟩⟩)⟩, ⟨by (with_reducible repeat (first | apply Kd.V_alloc | apply Kd.V_drewN | apply Kd.V_drew)); exact Kd.V_mono (Kd.V_far (p := ⟨gb266, 1, none⟩) (Kd.V_far (p := ⟨gb266, 0, none⟩) (Kd.V_mono HL265_0.out (fun k_ hk => (⟨hk, hk.2⟩ : _ ∧ k_ ≠ gb266))) (fun _ hk => hk.2) (.slice A265_0 ((rd_T26 t254 x56_4).f0).length c265_0)) (fun _ hk => hk.2) (.slice A265_1 ((rd_T26 t254 x56_4).f1).length c265_1)) (fun _ hk => ⟨hk.1.1.1.1, ⟨hk.1.1.2, ⟨hk.1.1.1.2.1, ⟨hk.1.1.1.2.2.1, ⟨hk.1.1.1.2.2.2, hk.1.2⟩⟩⟩⟩⟩)⟩, ⟨by (with_reducible repeat (first | apply Kd.V_alloc | apply Kd.V_drewN | apply Kd.V_drew)); exact Kd.V_mono (Kd.V_far (p := ⟨gb266, 1, none⟩) (Kd.V_far (p := ⟨gb266, 0, none⟩) (Kd.V_mono HL265_1.out (fun k_ hk => (⟨hk, hk.2⟩ : _ ∧ k_ ≠ gb266))) (fun _ hk => hk.2) (.slice A265_0 ((rd_T26 t254 x56_4).f0).length c265_0)) (fun _ hk => hk.2) (.slice A265_1 ((rd_T26 t254 x56_4).f1).length c265_1)) (fun _ hk => ⟨hk.1.1.1.1, ⟨hk.1.1.2, ⟨hk.1.1.1.2.1, ⟨hk.1.1.1.2.2.1, ⟨hk.1.1.1.2.2.2, hk.1.2⟩⟩⟩⟩⟩)⟩, ⟨by (with_reducible repeat (first | refine blk_drewN ?_ _ | refine blk_drew ?_ | refine blk_alloc ?_ _)); refine blk_far ?_ NB247_266.out _; (with_reducible repeat (first | refine blk_drewN ?_ _ | refine blk_drew ?_ | refine blk_alloc ?_ _)); refine blk_far ?_ NB247_266.out _; (with_reducible repeat (first | refine blk_drewN ?_ _ | refine blk_drew ?_ | refine blk_alloc ?_ _)); exact BK247.out⟩, ⟨by (with_reducible repeat (first | refine blk_drewN ?_ _ | refine blk_drew ?_ | refine blk_alloc ?_ _)); refine blk_far ?_ NB248_266.out _; (with_reducible repeat (first | refine blk_drewN ?_ _ | refine blk_drew ?_ | refine blk_alloc ?_ _)); refine blk_far ?_ NB248_266.out _; (with_reducible repeat (first | refine blk_drewN ?_ _ | refine blk_drew ?_ | refine blk_alloc ?_ _)); exact BK248.out⟩, ⟨by (with_reducible repeat (first | refine blk_drewN ?_ _ | refine blk_drew ?_ | refine blk_alloc ?_ _)); refine blk_far ?_ NB249_266.out _; (with_reducible repeat (first | refine blk_drewN ?_ _ | refine blk_drew ?_ | refine blk_alloc ?_ _)); refine blk_far ?_ NB249_266.out _; (with_reducible repeat (first | refine blk_drewN ?_ _ | refine blk_drew ?_ | refine blk_alloc ?_ _)); exact BK249.out⟩, ⟨by (with_reducible repeat (first | refine blk_drewN ?_ _ | refine blk_drew ?_ | refine blk_alloc ?_ _)); refine blk_put (cs := #[.slice A265_0 ((rd_T26 t254 x56_4).f0).length c265_0, .slice none 0 0]) ?_ 1 _ rfl; (with_reducible repeat (first | refine blk_drewN ?_ _ | refine blk_drew ?_ | refine blk_alloc ?_ _)); refine blk_put (cs := #[.slice none 0 0, .slice none 0 0]) ?_ 0 _ rfl; (with_reducible repeat (first | refine blk_drewN ?_ _ | refine blk_drew ?_ | refine blk_alloc ?_ _)); exact BK266.out⟩, ⟨(Kd.V_reads' (by (with_reducible repeat (first | apply Kd.V_alloc | apply Kd.V_drewN | apply Kd.V_drew)); exact (Kd.V_mono (Kd.V_far (p := ⟨gb266, 1, none⟩) (Kd.V_far (p := ⟨gb266, 0, none⟩) (Kd.V_mono HL265_0.out (fun k_ hk => (⟨hk, hk.2⟩ : _ ∧ k_ ≠ gb266))) (fun _ hk => hk.2) (.slice A265_0 ((rd_T26 t254 x56_4).f0).length c265_0)) (fun _ hk => hk.2) (.slice A265_1 ((rd_T26 t254 x56_4).f1).length c265_1)) (fun _ h_ => h_.1)))).2.2⟩, ⟨(Kd.V_reads' (by (with_reducible repeat (first | apply Kd.V_alloc | apply Kd.V_drewN | apply Kd.V_drew)); exact (Kd.V_mono (Kd.V_far (p := ⟨gb266, 1, none⟩) (Kd.V_far (p := ⟨gb266, 0, none⟩) (Kd.V_mono HL265_1.out (fun k_ hk => (⟨hk, hk.2⟩ : _ ∧ k_ ≠ gb266))) (fun _ hk => hk.2) (.slice A265_0 ((rd_T26 t254 x56_4).f0).length c265_0)) (fun _ hk => hk.2) (.slice A265_1 ((rd_T26 t254 x56_4).f1).length c265_1)) (fun _ h_ => h_.1)))).2.2⟩, ⟨by repeat (first | (with_reducible first | exact HB.out | apply below_alloc | apply pw_below_drewN | apply below_drew1 | refine below_set ?_ GE247.out | refine below_set ?_ GE248.out | refine below_set ?_ GE249.out | refine below_set ?_ GE266.out) | exact HB.out)⟩⟩
                   ·
                    rw [if_neg c83] at H
                    exact absurd H (by simp)
                  ·
                   rw [if_neg c82] at H
                   have c82b0 : decide (1 < (l0_1.length : Int)) = false := decide_eq_false c82
                   have c82b1 : decide (1 < l0_1.length) = false := decide_eq_false (by omega)
                   clear c82
                   (first | rw [c82b0] | (simp only [i64_w, i32_w]; rw [c82b0]) | skip)
                   have H' := Aside0.mk H
                   clear H
                   go_wp2
                   repeat (go_quiet (fail); try go_wp2)
                   go_meet
                   case rel => exact ⟨_, (rd l0_1 0), (by first | rfl | (simp; done) | (simp [*]; done)), H', ⟨by have := HJ2.out; have := HJ24.out; have := HJ38.out; have := HK4.out; first | omega | exact Nat.le_refl _⟩, ⟨by (with_reducible repeat (first | apply Kd.N_alloc | apply Kd.N_drewN | apply Kd.N_drew)); exact Kd.N_mono (Kd.N_far (p := ⟨gb266, 1, none⟩) (Kd.N_far (p := ⟨gb266, 0, none⟩) (Kd.N_mono HO_6.out (fun k_ hk => (⟨hk, hk.2⟩ : _ ∧ k_ ≠ gb266))) (fun _ hk => hk.2) (.slice A265_0 ((rd_T26 t254 x56_4).f0).length c265_0)) (fun _ hk => hk.2) (.slice A265_1 ((rd_T26 t254 x56_4).f1).length c265_1)) (fun _ hk => ⟨hk.1.1.1, ⟨hk.1.1.2.1, ⟨hk.1.1.2.2.1, ⟨hk.1.1.2.2.2, hk.1.2⟩⟩⟩⟩)⟩, ⟨by (with_reducible repeat (first | apply Kd.N_alloc | apply Kd.N_drewN | apply Kd.N_drew)); exact Kd.N_mono (Kd.N_far (p := ⟨gb266, 1, none⟩) (Kd.N_far (p := ⟨gb266, 0, none⟩) (Kd.N_mono HO_54.out (fun k_ hk => (⟨hk, hk.2⟩ : _ ∧ k_ ≠ gb266))) (fun _ hk => hk.2) (.slice A265_0 ((rd_T26 t254 x56_4).f0).length c265_0)) (fun _ hk => hk.2) (.slice A265_1 ((rd_T26 t254 x56_4).f1).length c265_1)) (fun _ hk => ⟨hk.1.1.1, ⟨hk.1.1.2.1, ⟨hk.1.1.2.2.1, ⟨hk.1.1.2.2.2, hk.1.2⟩⟩⟩⟩)⟩, ⟨by (with_reducible repeat (first | apply Kd.V_alloc | apply Kd.V_drewN | apply Kd.V_drew)); exact Kd.V_mono (Kd.V_far (p := ⟨gb266, 1, none⟩) (Kd.V_far (p := ⟨gb266, 0, none⟩) (Kd.V_mono HL265_0.out (fun k_ hk => (⟨hk, hk.2⟩ : _ ∧ k_ ≠ gb266))) (fun _ hk => hk.2) (.slice A265_0 ((rd_T26 t254 x56_4).f0).length c265_0)) (fun _ hk => hk.2) (.slice A265_1 ((rd_T26 t254 x56_4).f1).length c265_1)) (fun _ hk => ⟨hk.1.1.1.1, ⟨hk.1.1.2, ⟨hk.1.1.1.2.1, ⟨hk.1.1.1.2.2.1, ⟨hk.1.1.1.2.2.2, hk.1.2⟩⟩⟩⟩⟩)⟩, ⟨by (with_reducible repeat (first | apply Kd.V_alloc | apply Kd.V_drewN | apply Kd.V_drew)); exact Kd.V_mono (Kd.V_far (p := ⟨gb266, 1, none⟩) (Kd.V_far (p := ⟨gb266, 0, none⟩) (Kd.V_mono HL265_1.out (fun k_ hk => (⟨hk, hk.2⟩ : _ ∧ k_ ≠ gb266))) (fun _ hk => hk.2) (.slice A265_0 ((rd_T26 t254 x56_4).f0).length c265_0)) (fun _ hk => hk.2) (.slice A265_1 ((rd_T26 t254 x56_4).f1).length c265_1)) (fun _ hk => ⟨hk.1.1.1.1, ⟨hk.1.1.2, ⟨hk.1.1.1.2.1, ⟨hk.1.1.1.2.2.1, ⟨hk.1.1.1.2.2.2, hk.1.2⟩⟩⟩⟩⟩)⟩, ⟨by (with_reducible repeat (first | refine blk_drewN ?_ _ | refine blk_drew ?_ | refine blk_alloc ?_ _)); refine blk_far ?_ NB247_266.out _; (with_reducible repeat (first | refine blk_drewN ?_ _ | refine blk_drew ?_ | refine blk_alloc ?_ _)); refine blk_far ?_ NB247_266.out _; (with_reducible repeat (first | refine blk_drewN ?_ _ | refine blk_drew ?_ | refine blk_alloc ?_ _)); exact BK247.out⟩, ⟨by (with_reducible repeat (first | refine blk_drewN ?_ _ | refine blk_drew ?_ | refine blk_alloc ?_ _)); refine blk_far ?_ NB248_266.out _; (with_reducible repeat (first | refine blk_drewN ?_ _ | refine blk_drew ?_ | refine blk_alloc ?_ _)); refine blk_far ?_ NB248_266.out _; (with_reducible repeat (first | refine blk_drewN ?_ _ | refine blk_drew ?_ | refine blk_alloc ?_ _)); exact BK248.out⟩, ⟨by (with_reducible repeat (first | refine blk_drewN ?_ _ | refine blk_drew ?_ | refine blk_alloc ?_ _)); refine blk_far ?_ NB249_266.out _; (with_reducible repeat (first | refine blk_drewN ?_ _ | refine blk_drew ?_ | refine blk_alloc ?_ _)); refine blk_far ?_ NB249_266.out _; (with_reducible repeat (first | refine blk_drewN ?_ _ | refine blk_drew ?_ | refine blk_alloc ?_ _)); exact BK249.out⟩, ⟨by (with_reducible repeat (first | refine blk_drewN ?_ _ | refine blk_drew ?_ | refine blk_alloc ?_ _)); refine blk_put (cs := #[.slice A265_0 ((rd_T26 t254 x56_4).f0).length c265_0, .slice none 0 0]) ?_ 1 _ rfl; (with_reducible repeat (first | refine blk_drewN ?_ _ | refine blk_drew ?_ | refine blk_alloc ?_ _)); refine blk_put (cs := #[.slice none 0 0, .slice none 0 0]) ?_ 0 _ rfl; (with_reducible repeat (first | refine blk_drewN ?_ _ | refine blk_drew ?_ | refine blk_alloc ?_ _)); exact BK266.out⟩, ⟨(Kd.V_reads' (by (with_reducible repeat (first | apply Kd.V_alloc | apply Kd.V_drewN | apply Kd.V_drew)); exact (Kd.V_mono (Kd.V_far (p := ⟨gb266, 1, none⟩) (Kd.V_far (p := ⟨gb266, 0, none⟩) (Kd.V_mono HL265_0.out (fun k_ hk => (⟨hk, hk.2⟩ : _ ∧ k_ ≠ gb266))) (fun _ hk => hk.2) (.slice A265_0 ((rd_T26 t254 x56_4).f0).length c265_0)) (fun _ hk => hk.2) (.slice A265_1 ((rd_T26 t254 x56_4).f1).length c265_1)) (fun _ h_ => h_.1)))).2.2⟩, ⟨(Kd.V_reads' (by (with_reducible repeat (first | apply Kd.V_alloc | apply Kd.V_drewN | apply Kd.V_drew)); exact (Kd.V_mono (Kd.V_far (p := ⟨gb266, 1, none⟩) (Kd.V_far (p := ⟨gb266, 0, none⟩) (Kd.V_mono HL265_1.out (fun k_ hk => (⟨hk, hk.2⟩ : _ ∧ k_ ≠ gb266))) (fun _ hk => hk.2) (.slice A265_0 ((rd_T26 t254 x56_4).f0).length c265_0)) (fun _ hk => hk.2) (.slice A265_1 ((rd_T26 t254 x56_4).f1).length c265_1)) (fun _ h_ => h_.1)))).2.2⟩, ⟨by repeat (first | (with_reducible first | exact HB.out | apply below_alloc | apply pw_below_drewN | apply below_drew1 | refine below_set ?_ GE247.out | refine below_set ?_ GE248.out | refine below_set ?_ GE249.out | refine below_set ?_ GE266.out) | exact HB.out)⟩⟩
                 case rest =>
                  clear HC73
                  try clear c1
                  try clear c2
                  try clear p2
                  try clear q2
                  try clear hx2
                  try clear qi2
                  try clear c3
                  try clear c4
                  try clear c5
                  try clear c6
                  try clear c7
                  try clear c8
                  try clear c10
                  try clear c11
                  try clear c14
                  try clear c17
                  try clear c18
                  try clear c21
                  try clear c22
                  try clear c23
                  try clear p25
                  try clear q25
                  try clear hx25
                  try clear qi25
                  try clear c26
                  try clear c26b0
                  try clear c26b1
                  try clear p26
                  try clear q26
                  try clear hx26
                  try clear qi26
                  try clear c27
                  try clear c28
                  try clear c30
                  try clear c31
                  try clear c33
                  try clear c35
                  try clear c36
                  try clear c37
                  try clear c40
                  try clear c40b0
                  try clear c40b1
                  try clear c41
                  try clear c42
                  try clear c44
                  try clear c44b0
                  try clear c44b1
                  try clear c45
                  try clear c46
                  try clear c48
                  try clear c50
                  try clear c51
                  try clear c52
                  try clear c55
                  try clear c56
                  try clear c57
                  try clear c59
                  try clear c62
                  try clear c63
                  try clear c65
                  try clear c69
                  try clear c69b0
                  try clear c70
                  try clear c70b0
                  try clear c71
                  try clear c71b0
                  try clear c72
                  try clear c72b0
                  try clear c72b1
                  try clear c75
                  try clear c76
                  try clear c77
                  try clear c79
                  try clear c80
                  try clear c82
                  try clear c82b0
                  try clear c82b1
                  try clear c83
                  try clear c83b0
                  try clear c84
                  try clear c85
                  try clear c86
                  try clear hcz12_0
                  try clear hcz12_1
                  try clear hcz15_0
                  try clear hcz15_1
                  try clear hcz19_0
                  try clear hcz19_1
                  try clear hcz24_0
                  try clear hcz24_1
                  try clear hcz29_0
                  try clear hcz29_1
                  try clear hcz32_0
                  try clear hcz32_1
                  try clear hcz34_0
                  try clear hcz34_1
                  try clear hcz38_0
                  try clear hcz38_1
                  try clear hcz43_0
                  try clear hcz43_1
                  try clear hcz47_0
                  try clear hcz47_1
                  try clear hcz49_0
                  try clear hcz49_1
                  try clear hcz53_0
                  try clear hcz53_1
                  try clear hcz58_0
                  try clear hcz58_1
                  try clear hcz60_0
                  try clear hcz60_1
                  try clear hcz64_0
                  try clear hcz64_1
                  try clear hcz66_0
                  try clear hcz66_1
                  try clear hcz78_0
                  try clear hcz78_1
                  try clear hcz81_0
                  try clear hcz81_1
                  try clear hcz87_0
                  try clear hcz87_1
                  try clear hfz12_0
                  try clear hfz12_1
                  try clear hfz15_0
                  try clear hfz15_1
                  try clear hfz19_0
                  try clear hfz19_1
                  try clear hfz24_0
                  try clear hfz24_1
                  try clear hfz29_0
                  try clear hfz29_1
                  try clear hfz32_0
                  try clear hfz32_1
                  try clear hfz34_0
                  try clear hfz34_1
                  try clear hfz38_0
                  try clear hfz38_1
                  try clear hfz43_0
                  try clear hfz43_1
                  try clear hfz47_0
                  try clear hfz47_1
                  try clear hfz49_0
                  try clear hfz49_1
                  try clear hfz53_0
                  try clear hfz53_1
                  try clear hfz58_0
                  try clear hfz58_1
                  try clear hfz60_0
                  try clear hfz60_1
                  try clear hfz64_0
                  try clear hfz64_1
                  try clear hfz66_0
                  try clear hfz66_1
                  try clear hfz78_0
                  try clear hfz78_1
                  try clear hfz81_0
                  try clear hfz81_1
                  try clear hfz87_0
                  try clear hfz87_1
                  try clear hx252_0
                  try clear hx265_0
                  try clear hx265_1
                  try clear hx267_0
                  try clear hx268_0
                  try clear p2
                  try clear p25
                  try clear p252
                  try clear p265
                  try clear p267
                  try clear p268
                  try clear q2
                  try clear q25
                  try clear q252
                  try clear q265
                  try clear q267
                  try clear q268
                  obtain ⟨kq, x9_72, rfl, HA, HJ72, HO_6, HO_54, HO_267000, HO_267001, BK247, BK248, BK249, BK266, HR265_0, HR265_1, HB⟩ := hcut
                  cases kq with
                  | zero => exact absurd HA.out (by simp [impl_Copy.j4])
                  | succ kj72 =>
                   have H := HA.out
                   clear HA
                   simp only [impl_Copy.j4] at H
                   by_cases c88 : x9_72 > (wrap64 (300 - (x6_4.length : Int)))
                   ·
                    rw [if_pos c88] at H
                    have c88b0 : decide ((wrap64 (300 - (x6_4.length : Int))) < x9_72) = true := decide_eq_true c88
                    clear c88
                    simp only [Option.some.injEq, Prod.mk.injEq] at H
                    obtain ⟨rfl, rfl, rfl⟩ := H
                    obtain ⟨Ao89, co89, eo89⟩ := Kd.N_slice HO_6.out
                    subst eo89
                    have hnb90 := NB249_247.out
                    have hnc90 := NB247_249.out
                    have hnb91 := NB249_248.out
                    have hnc91 := NB248_249.out
                    have hnb92 := NB249_266.out
                    have hnc92 := NB266_249.out
                    have hcz93_0 : wc.cell? ⟨gb249, 0, none⟩ = some (.slice none 0 0) := (blk_cell BK249.out 0).trans rfl
                    have hcz93_1 : wc.cell? ⟨gb249, 1, none⟩ = some (.slice none 0 0) := (blk_cell BK249.out 1).trans rfl
                    have hfz93_0 := blk_frozen BK249.out 0
                    have hfz93_1 := blk_frozen BK249.out 1
                    go_wp2
                    repeat (go_quiet (fail); try go_wp2)
                    refine bodyPost_ret (results_ct rfl _ _ gb249 26 #[.slice none 0 0, .slice none 0 0] (0, 0) _ rfl (by (with_reducible repeat (first | refine blk_drewN ?_ _ | refine blk_drew ?_ | refine blk_alloc ?_ _)); refine blk_put (cs := #[.slice none 0 0, .slice none 0 0]) ?_ 1 _ rfl; (with_reducible repeat (first | refine blk_drewN ?_ _ | refine blk_drew ?_ | refine blk_alloc ?_ _)); refine blk_put (cs := #[.slice none 0 0, .slice none 0 0]) ?_ 0 _ rfl; (with_reducible repeat (first | refine blk_drewN ?_ _ | refine blk_drew ?_ | refine blk_alloc ?_ _)); exact BK249.out) Try.underlying26 rfl (by kernel_rfl)) rfl ?_
                    exact ⟨_, _, by first | rfl | (simp [errW_none, errW_some] <;> rfl) | (simp [*, errW_none, errW_some] <;> rfl), by first | exact Kd.R_nil _ _ _ _ _ | exact Kd.N_nil _ _ _ _ _ | exact Kd.V_nil _ _ _ _ _ | exact Kd.Q_nil _ _ _ _ _ | exact Kd.S_nil _ _ _ _ _, by first | exact Kd.R_nil _ _ _ _ _ | exact Kd.N_nil _ _ _ _ _ | exact Kd.V_nil _ _ _ _ _ | exact Kd.Q_nil _ _ _ _ _ | exact Kd.S_nil _ _ _ _ _, by repeat (first | (with_reducible first | exact HB.out | apply below_alloc | apply pw_below_drewN | apply below_drew1 | refine below_set ?_ GE247.out | refine below_set ?_ GE248.out | refine below_set ?_ GE249.out | refine below_set ?_ GE266.out) | exact HB.out)⟩
                   ·
                    rw [if_neg c88] at H
                    have c88b0 : decide ((wrap64 (300 - (x6_4.length : Int))) < x9_72) = false := decide_eq_false c88
                    clear c88
                    have H' := Aside0.mk H
                    clear H
                    obtain ⟨Ao94, co94, eo94⟩ := Kd.N_slice HO_6.out
                    subst eo94
                    go_wp2
                    repeat (go_quiet (fail); try go_wp2)
                    go_loopg [6, 9] kj72 (fun kq v6 v9 w' => ∃ (x6_6 : List (S26)) (x9_6 : Int), v9 = .int .i64 x9_6 ∧ Aside0 (impl_Copy.l1 kq x6_6 x9_6 t254 (t254.length : Int) x56_4 l0_0 l0_1 l1_0 l1_1 ((rd_T26 t254 x56_4).f0) ((rd_T26 t254 x56_4).f1) = some (r1, r2, r3)) ∧ Aside0 (kq ≤ kj72) ∧ Aside0 (Kd.N k26 26 w' w.heap.size (fun k_ => some k_ ≠ ((.slice (some ad265) t254.length co68) : Value).ownBlock ∧ k_ ≠ gb247 ∧ k_ ≠ gb248 ∧ k_ ≠ gb249 ∧ k_ ≠ gb266) v6 x6_6) ∧ Aside0 (Kd.N k26 26 w' w.heap.size (fun k_ => some k_ ≠ (v6 : Value).ownBlock ∧ k_ ≠ gb247 ∧ k_ ≠ gb248 ∧ k_ ≠ gb249 ∧ k_ ≠ gb266) (.slice (some ad265) t254.length co68) t254) ∧ Aside0 (Kd.V (Kd.int .i64) 3 w' w.heap.size (fun k_ => some k_ ≠ (v6 : Value).ownBlock ∧ some k_ ≠ ((.slice (some ad265) t254.length co68) : Value).ownBlock ∧ k_ ≠ gb247 ∧ k_ ≠ gb248 ∧ k_ ≠ gb249 ∧ k_ ≠ gb266) (.slice A265_0 ((rd_T26 t254 x56_4).f0).length c265_0) ((rd_T26 t254 x56_4).f0)) ∧ Aside0 (Kd.V (Kd.int .i64) 3 w' w.heap.size (fun k_ => some k_ ≠ (v6 : Value).ownBlock ∧ some k_ ≠ ((.slice (some ad265) t254.length co68) : Value).ownBlock ∧ k_ ≠ gb247 ∧ k_ ≠ gb248 ∧ k_ ≠ gb249 ∧ k_ ≠ gb266) (.slice A265_1 ((rd_T26 t254 x56_4).f1).length c265_1) ((rd_T26 t254 x56_4).f1)) ∧ Aside0 (w'.heap[gb247]? = some (.cells #[(.slice A0_0 l0_0.length c0_0), (.slice (some ad267) l0_1.length c0_1)] 26 (0, 0))) ∧ Aside0 (w'.heap[gb248]? = some (.cells #[(.slice A1_0 l1_0.length c1_0), (.slice A1_1 l1_1.length c1_1)] 26 (0, 0))) ∧ Aside0 (w'.heap[gb249]? = some (.cells #[(.slice none 0 0), (.slice none 0 0)] 26 (0, 0))) ∧ Aside0 (w'.heap[gb266]? = some (.cells #[(.slice A265_0 ((rd_T26 t254 x56_4).f0).length c265_0), (.slice A265_1 ((rd_T26 t254 x56_4).f1).length c265_1)] 26 (0, 0))) ∧ Aside0 (Below w.heap.size w w'))
                    case atStart => exact ⟨(x6_4), (x9_72), (by first | rfl | (simp; done) | (simp [*]; done)), H', ⟨Nat.le_refl _⟩, ⟨by (with_reducible repeat (first | apply Kd.N_alloc | apply Kd.N_drewN | apply Kd.N_drew)); exact HO_6.out⟩, ⟨by (with_reducible repeat (first | apply Kd.N_alloc | apply Kd.N_drewN | apply Kd.N_drew)); exact HO_54.out⟩, ⟨by (with_reducible repeat (first | apply Kd.V_alloc | apply Kd.V_drewN | apply Kd.V_drew)); exact HO_267000.out⟩, ⟨by (with_reducible repeat (first | apply Kd.V_alloc | apply Kd.V_drewN | apply Kd.V_drew)); exact HO_267001.out⟩, ⟨by (with_reducible repeat (first | refine blk_drewN ?_ _ | refine blk_drew ?_ | refine blk_alloc ?_ _)); exact BK247.out⟩, ⟨by (with_reducible repeat (first | refine blk_drewN ?_ _ | refine blk_drew ?_ | refine blk_alloc ?_ _)); exact BK248.out⟩, ⟨by (with_reducible repeat (first | refine blk_drewN ?_ _ | refine blk_drew ?_ | refine blk_alloc ?_ _)); exact BK249.out⟩, ⟨by (with_reducible repeat (first | refine blk_drewN ?_ _ | refine blk_drew ?_ | refine blk_alloc ?_ _)); exact BK266.out⟩, ⟨by repeat (first | (with_reducible first | exact HB.out | apply below_alloc | apply pw_below_drewN | apply below_drew1 | refine below_set ?_ GE247.out | refine below_set ?_ GE248.out | refine below_set ?_ GE249.out | refine below_set ?_ GE266.out) | exact HB.out)⟩⟩
                    case round =>
                     clear H'
                     try clear c1
                     try clear c2
                     try clear p2
                     try clear q2
                     try clear hx2
                     try clear qi2
                     try clear c3
                     try clear c4
                     try clear c5
                     try clear c6
                     try clear p6
                     try clear c7
                     try clear c8
                     try clear c9
                     try clear c10
                     try clear c11
                     try clear c14
                     try clear c17
                     try clear c18
                     try clear c21
                     try clear c22
                     try clear c23
                     try clear p25
                     try clear q25
                     try clear hx25
                     try clear qi25
                     try clear c26
                     try clear c26b0
                     try clear c26b1
                     try clear p26
                     try clear q26
                     try clear hx26
                     try clear qi26
                     try clear c27
                     try clear c28
                     try clear c30
                     try clear c31
                     try clear c33
                     try clear c35
                     try clear c36
                     try clear c37
                     try clear c40
                     try clear c40b0
                     try clear c40b1
                     try clear c41
                     try clear c42
                     try clear c44
                     try clear c44b0
                     try clear c44b1
                     try clear c45
                     try clear c46
                     try clear c48
                     try clear c50
                     try clear c51
                     try clear c52
                     try clear c55
                     try clear c56
                     try clear c57
                     try clear c59
                     try clear c62
                     try clear c63
                     try clear p64
                     try clear c65
                     try clear c69
                     try clear c69b0
                     try clear c70
                     try clear c70b0
                     try clear c71
                     try clear c71b0
                     try clear c72
                     try clear c72b0
                     try clear c72b1
                     try clear c75
                     try clear c76
                     try clear c77
                     try clear c79
                     try clear c80
                     try clear c82
                     try clear c82b0
                     try clear c82b1
                     try clear c83
                     try clear c83b0
                     try clear c84
                     try clear c85
                     try clear c86
                     try clear c88
                     try clear c88b0
                     try clear c90
                     try clear c91
                     try clear c92
                     try clear hcz12_0
                     try clear hcz12_1
                     try clear hcz15_0
                     try clear hcz15_1
                     try clear hcz19_0
                     try clear hcz19_1
                     try clear hcz24_0
                     try clear hcz24_1
                     try clear hcz29_0
                     try clear hcz29_1
                     try clear hcz32_0
                     try clear hcz32_1
                     try clear hcz34_0
                     try clear hcz34_1
                     try clear hcz38_0
                     try clear hcz38_1
                     try clear hcz43_0
                     try clear hcz43_1
                     try clear hcz47_0
                     try clear hcz47_1
                     try clear hcz49_0
                     try clear hcz49_1
                     try clear hcz53_0
                     try clear hcz53_1
                     try clear hcz58_0
                     try clear hcz58_1
                     try clear hcz60_0
                     try clear hcz60_1
                     try clear hcz64_0
                     try clear hcz64_1
                     try clear hcz66_0
                     try clear hcz66_1
                     try clear hcz78_0
                     try clear hcz78_1
                     try clear hcz81_0
                     try clear hcz81_1
                     try clear hcz87_0
                     try clear hcz87_1
                     try clear hcz93_0
                     try clear hcz93_1
                     try clear hfz12_0
                     try clear hfz12_1
                     try clear hfz15_0
                     try clear hfz15_1
                     try clear hfz19_0
                     try clear hfz19_1
                     try clear hfz24_0
                     try clear hfz24_1
                     try clear hfz29_0
                     try clear hfz29_1
                     try clear hfz32_0
                     try clear hfz32_1
                     try clear hfz34_0
                     try clear hfz34_1
                     try clear hfz38_0
                     try clear hfz38_1
                     try clear hfz43_0
                     try clear hfz43_1
                     try clear hfz47_0
                     try clear hfz47_1
                     try clear hfz49_0
                     try clear hfz49_1
                     try clear hfz53_0
                     try clear hfz53_1
                     try clear hfz58_0
                     try clear hfz58_1
                     try clear hfz60_0
                     try clear hfz60_1
                     try clear hfz64_0
                     try clear hfz64_1
                     try clear hfz66_0
                     try clear hfz66_1
                     try clear hfz78_0
                     try clear hfz78_1
                     try clear hfz81_0
                     try clear hfz81_1
                     try clear hfz87_0
                     try clear hfz87_1
                     try clear hfz93_0
                     try clear hfz93_1
                     try clear hx252_0
                     try clear hx265_0
                     try clear hx265_1
                     try clear hx267_0
                     try clear hx268_0
                     try clear p2
                     try clear p25
                     try clear p252
                     try clear p26
                     try clear p265
                     try clear p267
                     try clear p268
                     try clear q2
                     try clear q25
                     try clear q252
                     try clear q26
                     try clear q265
                     try clear q267
                     try clear q268
                     obtain ⟨x6_6, x9_6, rfl, HA, HK6, HO_6, HO_54, HO_267000, HO_267001, BK247, BK248, BK249, BK266, HB⟩ := hrel
                     cases gk with
                     | zero => exact absurd HA.out (by simp [impl_Copy.l1])
                     | succ k6 =>
                      have H := HA.out
                      clear HA
                      simp only [impl_Copy.l1] at H
                      by_cases c95 : x9_6 > 0
                      ·
                       rw [if_pos c95] at H
                       have c95b0 : decide (0 < x9_6) = true := decide_eq_true c95
                       clear c95
                       by_cases c96 : x6_6.length < 2932031007402
                       ·
                        rw [if_pos c96] at H
                        have LMc96 := Aside0.mk c96
                        clear c96
                        obtain ⟨y269, hy269⟩ : ∃ y_ : List (S26), y_ = (x6_6 ++ [(⟨((rd_T26 t254 x56_4).f0), ((rd_T26 t254 x56_4).f1)⟩ : S26)]) := ⟨_, rfl⟩
                        replace H : (impl_Copy.l1 k6 y269 (wrap64 (x9_6 - 1)) t254 (t254.length : Int) x56_4 l0_0 l0_1 l1_0 l1_1 ((rd_T26 t254 x56_4).f0) ((rd_T26 t254 x56_4).f1)) = some (r1, r2, r3) := by first | (rw [hy269]; with_reducible exact H) | (have H2_ := (Option.bind_some _ _).symm.trans H; rw [hy269]; with_reducible exact H2_) | (have H2_ := (Option.bind_some _ _).symm.trans H; with_reducible exact H2_) | with_reducible exact H | (rw [hy269]; exact H) | exact H
                        have Ny269 := Aside0.mk hy269
                        clear hy269
                        have H' := Aside0.mk H
                        clear H
                        have hnb97 := NB266_247.out
                        have hnc97 := NB247_266.out
                        have hnb98 := NB266_248.out
                        have hnc98 := NB248_266.out
                        have hnb99 := NB266_249.out
                        have hnc99 := NB249_266.out
                        have hcz100_0 : wr.cell? ⟨gb266, 0, none⟩ = some (.slice A265_0 ((rd_T26 t254 x56_4).f0).length c265_0) := (blk_cell BK266.out 0).trans rfl
                        have hcz100_1 : wr.cell? ⟨gb266, 1, none⟩ = some (.slice A265_1 ((rd_T26 t254 x56_4).f1).length c265_1) := (blk_cell BK266.out 1).trans rfl
                        have hfz100_0 := blk_frozen BK266.out 0
                        have hfz100_1 := blk_frozen BK266.out 1
                        go_wp2_with (first | ((with_reducible refine gate_builtin (b := .append) (xs := #[.tmp 84, .tmp 86]) rfl ?_); (try (refine gate_guard (by rfl) ?_; dsimp only)); at_builtin; refine Kd.N_append k26 (w0 := w) w.heap.size rfl (.tmp 84) (.tmp 86) 38 26 (.agg #[(.slice none 0 0), (.slice none 0 0)]) 48 rfl Try.underlying38 info26 rfl (by decide) (by omega) u6 x6_6 (⟨((rd_T26 t254 x56_4).f0), ((rd_T26 t254 x56_4).f1)⟩ : S26) [.slice A265_0 ((rd_T26 t254 x56_4).f0).length c265_0, .slice A265_1 ((rd_T26 t254 x56_4).f1).length c265_1] (fun k_ => some k_ ≠ (.slice (some ad265) t254.length co68 : Value).ownBlock ∧ k_ ≠ gb247 ∧ k_ ≠ gb248 ∧ k_ ≠ gb249 ∧ k_ ≠ gb266) (fun k_ => ((fun k_ => some k_ ≠ (.slice (some ad265) t254.length co68 : Value).ownBlock ∧ k_ ≠ gb247 ∧ k_ ≠ gb248 ∧ k_ ≠ gb249 ∧ k_ ≠ gb266)) k_ ∧ some k_ ≠ (u6 : Value).ownBlock) rfl rfl ?aP (fun _ hk => hk) ?aF ?aO ?aB ?aS ?aL ?_; (case aP => exact (k26_mkF _ _ (⟨((rd_T26 t254 x56_4).f0), ((rd_T26 t254 x56_4).f1)⟩ : S26) (Kd.V_reads' (Kd.V_mono (ok' := (fun k_ => ((fun k_ => some k_ ≠ (.slice (some ad265) t254.length co68 : Value).ownBlock ∧ k_ ≠ gb247 ∧ k_ ≠ gb248 ∧ k_ ≠ gb249 ∧ k_ ≠ gb266)) k_ ∧ some k_ ≠ (u6 : Value).ownBlock)) (HO_267000.out) (fun k_ hk => ⟨⟨hk.2.1, ⟨hk.2.2.1, ⟨hk.2.2.2.1, ⟨hk.2.2.2.2.1, hk.2.2.2.2.2⟩⟩⟩⟩, hk.1⟩))).2.1 (Kd.V_F (Kd.V_mono (ok' := (fun k_ => ((fun k_ => some k_ ≠ (.slice (some ad265) t254.length co68 : Value).ownBlock ∧ k_ ≠ gb247 ∧ k_ ≠ gb248 ∧ k_ ≠ gb249 ∧ k_ ≠ gb266)) k_ ∧ some k_ ≠ (u6 : Value).ownBlock)) (HO_267000.out) (fun k_ hk => ⟨⟨hk.2.1, ⟨hk.2.2.1, ⟨hk.2.2.2.1, ⟨hk.2.2.2.2.1, hk.2.2.2.2.2⟩⟩⟩⟩, hk.1⟩))) (Kd.V_reads' (Kd.V_mono (ok' := (fun k_ => ((fun k_ => some k_ ≠ (.slice (some ad265) t254.length co68 : Value).ownBlock ∧ k_ ≠ gb247 ∧ k_ ≠ gb248 ∧ k_ ≠ gb249 ∧ k_ ≠ gb266)) k_ ∧ some k_ ≠ (u6 : Value).ownBlock)) (HO_267001.out) (fun k_ hk => ⟨⟨hk.2.1, ⟨hk.2.2.1, ⟨hk.2.2.2.1, ⟨hk.2.2.2.2.1, hk.2.2.2.2.2⟩⟩⟩⟩, hk.1⟩))).2.1 (Kd.V_F (Kd.V_mono (ok' := (fun k_ => ((fun k_ => some k_ ≠ (.slice (some ad265) t254.length co68 : Value).ownBlock ∧ k_ ≠ gb247 ∧ k_ ≠ gb248 ∧ k_ ≠ gb249 ∧ k_ ≠ gb266)) k_ ∧ some k_ ≠ (u6 : Value).ownBlock)) (HO_267001.out) (fun k_ hk => ⟨⟨hk.2.1, ⟨hk.2.2.1, ⟨hk.2.2.2.1, ⟨hk.2.2.2.2.1, hk.2.2.2.2.2⟩⟩⟩⟩, hk.1⟩))))); (case aB => exact (bS4 HB.out GE247.out GE248.out GE249.out GE266.out)); (case aF => exact (fun k_ hk => ⟨Kd.fresh' (Kd.N_lt (NU HO_54.out)) k_ hk, Kd.freshB (g := gb247) (o := .cells #[.slice A0_0 l0_0.length c0_0, .slice (some ad267) l0_1.length c0_1] 26 (0, 0)) (kU BK247.out) k_ hk, Kd.freshB (g := gb248) (o := .cells #[.slice A1_0 l1_0.length c1_0, .slice A1_1 l1_1.length c1_1] 26 (0, 0)) (kU BK248.out) k_ hk, Kd.freshB (g := gb249) (o := .cells #[.slice none 0 0, .slice none 0 0] 26 (0, 0)) (kU BK249.out) k_ hk, Kd.freshB (g := gb266) (o := .cells #[.slice A265_0 ((rd_T26 t254 x56_4).f0).length c265_0, .slice A265_1 ((rd_T26 t254 x56_4).f1).length c265_1] 26 (0, 0)) (kU BK266.out) k_ hk⟩)); (case aO => exact (NU HO_6.out)); (case aS => exact (below_size (bS4 HB.out GE247.out GE248.out GE249.out GE266.out))); (case aL => have := LMc96.out; omega); intro v270 w101 ho hb hg hat; rw [← Ny269.out] at ho; have n0_ := Aside0.mk (Kd.N_afterv (ok := (fun k_ => k_ ≠ gb247 ∧ k_ ≠ gb248 ∧ k_ ≠ gb249 ∧ k_ ≠ gb266)) (by (with_reducible repeat (first | apply Kd.N_alloc | apply Kd.N_drewN | apply Kd.N_drew)); exact Kd.N_mono HO_54.out (fun _ hk => ⟨⟨hk.2.1, ⟨hk.2.2.1, ⟨hk.2.2.2.1, hk.2.2.2.2⟩⟩⟩, hk.1⟩)) hg hat); have n1_ := Aside0.mk (Kd.V_afterv (ok := (fun k_ => some k_ ≠ (.slice (some ad265) t254.length co68 : Value).ownBlock ∧ k_ ≠ gb247 ∧ k_ ≠ gb248 ∧ k_ ≠ gb249 ∧ k_ ≠ gb266)) (by (with_reducible repeat (first | apply Kd.V_alloc | apply Kd.V_drewN | apply Kd.V_drew)); exact Kd.V_mono HO_267000.out (fun _ hk => ⟨⟨hk.2.1, ⟨hk.2.2.1, ⟨hk.2.2.2.1, ⟨hk.2.2.2.2.1, hk.2.2.2.2.2⟩⟩⟩⟩, hk.1⟩)) hg hat); have n2_ := Aside0.mk (Kd.V_afterv (ok := (fun k_ => some k_ ≠ (.slice (some ad265) t254.length co68 : Value).ownBlock ∧ k_ ≠ gb247 ∧ k_ ≠ gb248 ∧ k_ ≠ gb249 ∧ k_ ≠ gb266)) (by (with_reducible repeat (first | apply Kd.V_alloc | apply Kd.V_drewN | apply Kd.V_drew)); exact Kd.V_mono HO_267001.out (fun _ hk => ⟨⟨hk.2.1, ⟨hk.2.2.1, ⟨hk.2.2.2.1, ⟨hk.2.2.2.2.1, hk.2.2.2.2.2⟩⟩⟩⟩, hk.1⟩)) hg hat); have n3_ := Aside0.mk (blk_grown (g := gb247) (o := .cells #[.slice A0_0 l0_0.length c0_0, .slice (some ad267) l0_1.length c0_1] 26 (0, 0)) (kU BK247.out) hg (Kd.N_away HO_6.out (fun _ hk => hk.2.1))); have n4_ := Aside0.mk (blk_grown (g := gb248) (o := .cells #[.slice A1_0 l1_0.length c1_0, .slice A1_1 l1_1.length c1_1] 26 (0, 0)) (kU BK248.out) hg (Kd.N_away HO_6.out (fun _ hk => hk.2.2.1))); have n5_ := Aside0.mk (blk_grown (g := gb249) (o := .cells #[.slice none 0 0, .slice none 0 0] 26 (0, 0)) (kU BK249.out) hg (Kd.N_away HO_6.out (fun _ hk => hk.2.2.2.1))); have n6_ := Aside0.mk (blk_grown (g := gb266) (o := .cells #[.slice A265_0 ((rd_T26 t254 x56_4).f0).length c265_0, .slice A265_1 ((rd_T26 t254 x56_4).f1).length c265_1] 26 (0, 0)) (kU BK266.out) hg (Kd.N_away HO_6.out (fun _ hk => hk.2.2.2.2))); have n7_ := Aside0.mk (hb); have n8_ := Aside0.mk (ho); clear HO_54; clear HO_267000; clear HO_267001; clear BK247; clear BK248; clear BK249; clear BK266; clear HB; clear HO_6; have HO_54 := n0_; have HO_267000 := n1_; have HO_267001 := n2_; have BK247 := n3_; have BK248 := n4_; have BK249 := n5_; have BK266 := n6_; have HB := n7_; have HO271 := n8_; clear n0_ n1_ n2_ n3_ n4_ n5_ n6_ n7_ n8_; clear ho hb hg hat))
                        repeat (go_quiet (fail); try go_wp2_with (first | ((with_reducible refine gate_builtin (b := .append) (xs := #[.tmp 84, .tmp 86]) rfl ?_); (try (refine gate_guard (by rfl) ?_; dsimp only)); at_builtin; refine Kd.N_append k26 (w0 := w) w.heap.size rfl (.tmp 84) (.tmp 86) 38 26 (.agg #[(.slice none 0 0), (.slice none 0 0)]) 48 rfl Try.underlying38 info26 rfl (by decide) (by omega) u6 x6_6 (⟨((rd_T26 t254 x56_4).f0), ((rd_T26 t254 x56_4).f1)⟩ : S26) [.slice A265_0 ((rd_T26 t254 x56_4).f0).length c265_0, .slice A265_1 ((rd_T26 t254 x56_4).f1).length c265_1] (fun k_ => some k_ ≠ (.slice (some ad265) t254.length co68 : Value).ownBlock ∧ k_ ≠ gb247 ∧ k_ ≠ gb248 ∧ k_ ≠ gb249 ∧ k_ ≠ gb266) (fun k_ => ((fun k_ => some k_ ≠ (.slice (some ad265) t254.length co68 : Value).ownBlock ∧ k_ ≠ gb247 ∧ k_ ≠ gb248 ∧ k_ ≠ gb249 ∧ k_ ≠ gb266)) k_ ∧ some k_ ≠ (u6 : Value).ownBlock) rfl rfl ?aP (fun _ hk => hk) ?aF ?aO ?aB ?aS ?aL ?_; (case aP => exact (k26_mkF _ _ (⟨((rd_T26 t254 x56_4).f0), ((rd_T26 t254 x56_4).f1)⟩ : S26) (Kd.V_reads' (Kd.V_mono (ok' := (fun k_ => ((fun k_ => some k_ ≠ (.slice (some ad265) t254.length co68 : Value).ownBlock ∧ k_ ≠ gb247 ∧ k_ ≠ gb248 ∧ k_ ≠ gb249 ∧ k_ ≠ gb266)) k_ ∧ some k_ ≠ (u6 : Value).ownBlock)) (HO_267000.out) (fun k_ hk => ⟨⟨hk.2.1, ⟨hk.2.2.1, ⟨hk.2.2.2.1, ⟨hk.2.2.2.2.1, hk.2.2.2.2.2⟩⟩⟩⟩, hk.1⟩))).2.1 (Kd.V_F (Kd.V_mono (ok' := (fun k_ => ((fun k_ => some k_ ≠ (.slice (some ad265) t254.length co68 : Value).ownBlock ∧ k_ ≠ gb247 ∧ k_ ≠ gb248 ∧ k_ ≠ gb249 ∧ k_ ≠ gb266)) k_ ∧ some k_ ≠ (u6 : Value).ownBlock)) (HO_267000.out) (fun k_ hk => ⟨⟨hk.2.1, ⟨hk.2.2.1, ⟨hk.2.2.2.1, ⟨hk.2.2.2.2.1, hk.2.2.2.2.2⟩⟩⟩⟩, hk.1⟩))) (Kd.V_reads' (Kd.V_mono (ok' := (fun k_ => ((fun k_ => some k_ ≠ (.slice (some ad265) t254.length co68 : Value).ownBlock ∧ k_ ≠ gb247 ∧ k_ ≠ gb248 ∧ k_ ≠ gb249 ∧ k_ ≠ gb266)) k_ ∧ some k_ ≠ (u6 : Value).ownBlock)) (HO_267001.out) (fun k_ hk => ⟨⟨hk.2.1, ⟨hk.2.2.1, ⟨hk.2.2.2.1, ⟨hk.2.2.2.2.1, hk.2.2.2.2.2⟩⟩⟩⟩, hk.1⟩))).2.1 (Kd.V_F (Kd.V_mono (ok' := (fun k_ => ((fun k_ => some k_ ≠ (.slice (some ad265) t254.length co68 : Value).ownBlock ∧ k_ ≠ gb247 ∧ k_ ≠ gb248 ∧ k_ ≠ gb249 ∧ k_ ≠ gb266)) k_ ∧ some k_ ≠ (u6 : Value).ownBlock)) (HO_267001.out) (fun k_ hk => ⟨⟨hk.2.1, ⟨hk.2.2.1, ⟨hk.2.2.2.1, ⟨hk.2.2.2.2.1, hk.2.2.2.2.2⟩⟩⟩⟩, hk.1⟩))))); (case aB => exact (bS4 HB.out GE247.out GE248.out GE249.out GE266.out)); (case aF => exact (fun k_ hk => ⟨Kd.fresh' (Kd.N_lt (NU HO_54.out)) k_ hk, Kd.freshB (g := gb247) (o := .cells #[.slice A0_0 l0_0.length c0_0, .slice (some ad267) l0_1.length c0_1] 26 (0, 0)) (kU BK247.out) k_ hk, Kd.freshB (g := gb248) (o := .cells #[.slice A1_0 l1_0.length c1_0, .slice A1_1 l1_1.length c1_1] 26 (0, 0)) (kU BK248.out) k_ hk, Kd.freshB (g := gb249) (o := .cells #[.slice none 0 0, .slice none 0 0] 26 (0, 0)) (kU BK249.out) k_ hk, Kd.freshB (g := gb266) (o := .cells #[.slice A265_0 ((rd_T26 t254 x56_4).f0).length c265_0, .slice A265_1 ((rd_T26 t254 x56_4).f1).length c265_1] 26 (0, 0)) (kU BK266.out) k_ hk⟩)); (case aO => exact (NU HO_6.out)); (case aS => exact (below_size (bS4 HB.out GE247.out GE248.out GE249.out GE266.out))); (case aL => have := LMc96.out; omega); intro v270 w101 ho hb hg hat; rw [← Ny269.out] at ho; have n0_ := Aside0.mk (Kd.N_afterv (ok := (fun k_ => k_ ≠ gb247 ∧ k_ ≠ gb248 ∧ k_ ≠ gb249 ∧ k_ ≠ gb266)) (by (with_reducible repeat (first | apply Kd.N_alloc | apply Kd.N_drewN | apply Kd.N_drew)); exact Kd.N_mono HO_54.out (fun _ hk => ⟨⟨hk.2.1, ⟨hk.2.2.1, ⟨hk.2.2.2.1, hk.2.2.2.2⟩⟩⟩, hk.1⟩)) hg hat); have n1_ := Aside0.mk (Kd.V_afterv (ok := (fun k_ => some k_ ≠ (.slice (some ad265) t254.length co68 : Value).ownBlock ∧ k_ ≠ gb247 ∧ k_ ≠ gb248 ∧ k_ ≠ gb249 ∧ k_ ≠ gb266)) (by (with_reducible repeat (first | apply Kd.V_alloc | apply Kd.V_drewN | apply Kd.V_drew)); exact Kd.V_mono HO_267000.out (fun _ hk => ⟨⟨hk.2.1, ⟨hk.2.2.1, ⟨hk.2.2.2.1, ⟨hk.2.2.2.2.1, hk.2.2.2.2.2⟩⟩⟩⟩, hk.1⟩)) hg hat); have n2_ := Aside0.mk (Kd.V_afterv (ok := (fun k_ => some k_ ≠ (.slice (some ad265) t254.length co68 : Value).ownBlock ∧ k_ ≠ gb247 ∧ k_ ≠ gb248 ∧ k_ ≠ gb249 ∧ k_ ≠ gb266)) (by (with_reducible repeat (first | apply Kd.V_alloc | apply Kd.V_drewN | apply Kd.V_drew)); exact Kd.V_mono HO_267001.out (fun _ hk => ⟨⟨hk.2.1, ⟨hk.2.2.1, ⟨hk.2.2.2.1, ⟨hk.2.2.2.2.1, hk.2.2.2.2.2⟩⟩⟩⟩, hk.1⟩)) hg hat); have n3_ := Aside0.mk (blk_grown (g := gb247) (o := .cells #[.slice A0_0 l0_0.length c0_0, .slice (some ad267) l0_1.length c0_1] 26 (0, 0)) (kU BK247.out) hg (Kd.N_away HO_6.out (fun _ hk => hk.2.1))); have n4_ := Aside0.mk (blk_grown (g := gb248) (o := .cells #[.slice A1_0 l1_0.length c1_0, .slice A1_1 l1_1.length c1_1] 26 (0, 0)) (kU BK248.out) hg (Kd.N_away HO_6.out (fun _ hk => hk.2.2.1))); have n5_ := Aside0.mk (blk_grown (g := gb249) (o := .cells #[.slice none 0 0, .slice none 0 0] 26 (0, 0)) (kU BK249.out) hg (Kd.N_away HO_6.out (fun _ hk => hk.2.2.2.1))); have n6_ := Aside0.mk (blk_grown (g := gb266) (o := .cells #[.slice A265_0 ((rd_T26 t254 x56_4).f0).length c265_0, .slice A265_1 ((rd_T26 t254 x56_4).f1).length c265_1] 26 (0, 0)) (kU BK266.out) hg (Kd.N_away HO_6.out (fun _ hk => hk.2.2.2.2))); have n7_ := Aside0.mk (hb); have n8_ := Aside0.mk (ho); clear HO_54; clear HO_267000; clear HO_267001; clear BK247; clear BK248; clear BK249; clear BK266; clear HB; clear HO_6; have HO_54 := n0_; have HO_267000 := n1_; have HO_267001 := n2_; have BK247 := n3_; have BK248 := n4_; have BK249 := n5_; have BK266 := n6_; have HB := n7_; have HO271 := n8_; clear n0_ n1_ n2_ n3_ n4_ n5_ n6_ n7_ n8_; clear ho hb hg hat)))
                        go_roundg k6
                        case measure => have := HJ2.out; have := HJ24.out; have := HJ38.out; have := HK4.out; have := HJ72.out; have := HK6.out; omega
                        case rel => exact ⟨(y269), (wrap64 (x9_6 - 1)), (by first | rfl | (simp; done) | (simp [*]; done)), H', ⟨by have := HJ2.out; have := HJ24.out; have := HJ38.out; have := HK4.out; have := HJ72.out; have := HK6.out; omega⟩, ⟨by (with_reducible repeat (first | apply Kd.N_alloc | apply Kd.N_drewN | apply Kd.N_drew)); exact HO271.out⟩, ⟨by (with_reducible repeat (first | apply Kd.N_alloc | apply Kd.N_drewN | apply Kd.N_drew)); exact Kd.N_mono HO_54.out (fun _ hk => ⟨hk.2, ⟨hk.1.1, ⟨hk.1.2.1, ⟨hk.1.2.2.1, hk.1.2.2.2⟩⟩⟩⟩)⟩, ⟨by (with_reducible repeat (first | apply Kd.V_alloc | apply Kd.V_drewN | apply Kd.V_drew)); exact Kd.V_mono HO_267000.out (fun _ hk => ⟨hk.2, ⟨hk.1.1, ⟨hk.1.2.1, ⟨hk.1.2.2.1, ⟨hk.1.2.2.2.1, hk.1.2.2.2.2⟩⟩⟩⟩⟩)⟩, ⟨by (with_reducible repeat (first | apply Kd.V_alloc | apply Kd.V_drewN | apply Kd.V_drew)); exact Kd.V_mono HO_267001.out (fun _ hk => ⟨hk.2, ⟨hk.1.1, ⟨hk.1.2.1, ⟨hk.1.2.2.1, ⟨hk.1.2.2.2.1, hk.1.2.2.2.2⟩⟩⟩⟩⟩)⟩, ⟨by (with_reducible repeat (first | refine blk_drewN ?_ _ | refine blk_drew ?_ | refine blk_alloc ?_ _)); exact BK247.out⟩, ⟨by (with_reducible repeat (first | refine blk_drewN ?_ _ | refine blk_drew ?_ | refine blk_alloc ?_ _)); exact BK248.out⟩, ⟨by (with_reducible repeat (first | refine blk_drewN ?_ _ | refine blk_drew ?_ | refine blk_alloc ?_ _)); exact BK249.out⟩, ⟨by (with_reducible repeat (first | refine blk_drewN ?_ _ | refine blk_drew ?_ | refine blk_alloc ?_ _)); exact BK266.out⟩, ⟨by repeat (first | (with_reducible first | exact HB.out | apply below_alloc | apply pw_below_drewN | apply below_drew1 | refine below_set ?_ GE247.out | refine below_set ?_ GE248.out | refine below_set ?_ GE249.out | refine below_set ?_ GE266.out) | exact HB.out)⟩⟩
                       ·
                        rw [if_neg c96] at H
                        exact absurd H (by simp)
                      ·
                       rw [if_neg c95] at H
                       have c95b0 : decide (0 < x9_6) = false := decide_eq_false c95
                       clear c95
                       have H' := Aside0.mk H
                       clear H
                       go_wp2
                       repeat (go_quiet (fail); try go_wp2)
                       go_roundg k6
                       case measure => have := HJ2.out; have := HJ24.out; have := HJ38.out; have := HK4.out; have := HJ72.out; have := HK6.out; omega
                       case rel => exact ⟨(x6_6), (wrap64 (x56_4 + 1)), (by first | rfl | (simp; done) | (simp [*]; done)), H', ⟨by have := HJ2.out; have := HJ24.out; have := HJ38.out; have := HK4.out; have := HJ72.out; have := HK6.out; omega⟩, ⟨by (with_reducible repeat (first | apply Kd.N_alloc | apply Kd.N_drewN | apply Kd.N_drew)); exact Kd.N_mono HO_6.out (fun _ hk => ⟨hk.1, ⟨hk.2.1, ⟨hk.2.2.1, hk.2.2.2.1⟩⟩⟩)⟩, ⟨by (with_reducible repeat (first | apply Kd.N_alloc | apply Kd.N_drewN | apply Kd.N_drew)); exact Kd.N_mono HO_54.out (fun _ hk => ⟨hk.1, ⟨hk.2.1, ⟨hk.2.2.1, hk.2.2.2.1⟩⟩⟩)⟩, ⟨by (with_reducible repeat (first | refine blk_drewN ?_ _ | refine blk_drew ?_ | refine blk_alloc ?_ _)); exact BK247.out⟩, ⟨by (with_reducible repeat (first | refine blk_drewN ?_ _ | refine blk_drew ?_ | refine blk_alloc ?_ _)); exact BK248.out⟩, ⟨by (with_reducible repeat (first | refine blk_drewN ?_ _ | refine blk_drew ?_ | refine blk_alloc ?_ _)); exact BK249.out⟩, ⟨by repeat (first | (with_reducible first | exact HB.out | apply below_alloc | apply pw_below_drewN | apply below_drew1 | refine below_set ?_ GE247.out | refine below_set ?_ GE248.out | refine below_set ?_ GE249.out | refine below_set ?_ GE266.out) | exact HB.out)⟩⟩
                ·
                 rw [if_neg c72] at H
                 exact absurd H (by simp)
               ·
                rw [if_neg c71] at H
                exact absurd H (by simp)
              ·
               rw [if_neg c70] at H
               exact absurd H (by simp)
             ·
              rw [if_neg c69] at H
              have c69b0 : decide (x56_4 < (t254.length : Int)) = false := decide_eq_false c69
              clear c69
              by_cases c102 : 1 ≤ (l1_0.length : Int)
              ·
               rw [if_pos c102] at H
               have c102b0 := eq_true c102
               have c102b1 : decide (1 ≤ (l1_0.length : Int)) = true := decide_eq_true c102
               clear c102
               replace H := Option.bind_eq_some_iff.mp H
               obtain ⟨⟨t258, t261, t264⟩, A1030, H⟩ := H
               replace H : (some (t258, t261, t264)) = some (r1, r2, r3) := H
               have A103 := Aside0.mk A1030
               clear A1030
               simp only [Option.some.injEq, Prod.mk.injEq] at H
               obtain ⟨rfl, rfl, rfl⟩ := H
               have hnb104 := NB248_247.out
               have hnc104 := NB247_248.out
               have hnb105 := NB248_249.out
               have hnc105 := NB249_248.out
               have hcz106_0 : wr.cell? ⟨gb248, 0, none⟩ = some (.slice A1_0 l1_0.length c1_0) := (blk_cell BK248.out 0).trans rfl
               have hcz106_1 : wr.cell? ⟨gb248, 1, none⟩ = some (.slice A1_1 l1_1.length c1_1) := (blk_cell BK248.out 1).trans rfl
               have hfz106_0 := blk_frozen BK248.out 0
               have hfz106_1 := blk_frozen BK248.out 1
               obtain ⟨i0107, hi0107, _, hsz107, _⟩ := info_parts info3
               obtain ⟨A107, hcut107, hA107, hC107⟩ := print_drop_of (P := Try.prog) (Value.int .i64) 0 22 3 .i64 Try.underlying22 hi0107 hsz107 A1_0 c1_0 l1_0 1 (by omega) (of_decide_eq_true (by first | (with_reducible assumption) | assumption)) HC1_0.out
               have HR257 := Aside0.mk (Kd.C_of_reads (h1 := fun _ => rfl) (hA107 _ (Kd.reads_of_C HR1_0.out)))
               have HC257 := Aside0.mk hC107
               clear hA107 hC107 hi0107 hsz107
               obtain ⟨Ao108, co108, eo108⟩ := Kd.N_slice HO_6.out
               subst eo108
               go_wp2_with (first | (go_at_call 78; (repeat rw [i64_w]); (try rw [show l1_0.length - 1 = (l1_0.drop 1).length from (by simp)]); (with_reducible refine (impl_joined.calls k4 _ _ x6_4 _ _ (l1_0.drop 1) t258 t261 t264 _ ?side1 ?side2 ?side3 ?side4 A103.out).mono ?_); (case side1 => exact cU (Kd.N_reads' HO_6.out).2.2); (case side2 => exact (Kd.N_reads' HO_6.out).2.1); (case side3 => exact cU (Kd.C_below HR257.out HB.out)); (case side4 => exact HC257.out); rintro e w109 ⟨v259, v262, rfl, ho0, ho1, hb⟩; replace HO_6 := Aside0.mk (Kd.N_mono (Kd.N_told (Kd.N_told (Kd.N_old (NU HO_6.out) hb) (Kd.R_base ho0)) (Kd.R_base ho1)) (fun _ h_ => h_.1)); replace HO_54 := Aside0.mk (Kd.N_mono (Kd.N_told (Kd.N_told (Kd.N_old (NU HO_54.out) hb) (Kd.R_base ho0)) (Kd.R_base ho1)) (fun _ h_ => h_.1)); have HO260 := Aside0.mk (Kd.R_lower ho0 (below_size (bS3 HB.out GE247.out GE248.out GE249.out))); have HO263 := Aside0.mk (Kd.R_lower ho1 (below_size (bS3 HB.out GE247.out GE248.out GE249.out))); replace BK247 := Aside0.mk (blk_below (g := gb247) (o := .cells #[.slice A0_0 l0_0.length c0_0, .slice A0_1 l0_1.length c0_1] 26 (0, 0)) (kU BK247.out) hb); replace BK248 := Aside0.mk (blk_below (g := gb248) (o := .cells #[.slice A1_0 l1_0.length c1_0, .slice A1_1 l1_1.length c1_1] 26 (0, 0)) (kU BK248.out) hb); replace BK249 := Aside0.mk (blk_below (g := gb249) (o := .cells #[.slice none 0 0, .slice none 0 0] 26 (0, 0)) (kU BK249.out) hb); replace HB := Aside0.mk (below_step (bS3 HB.out GE247.out GE248.out GE249.out) hb); (try clear hb); (try clear hb2); (try clear hk); (try clear hi); (try clear ho0); (try clear ho1); obtain ⟨Ao110, co110, eo110⟩ := Kd.R_slice HO260.out; subst eo110; have hnb111 := NB249_247.out; have hnc111 := NB247_249.out; have hcz112_0 : w109.cell? ⟨gb249, 0, none⟩ = some (.slice none 0 0) := (blk_cell BK249.out 0).trans rfl; have hcz112_1 : w109.cell? ⟨gb249, 1, none⟩ = some (.slice none 0 0) := (blk_cell BK249.out 1).trans rfl; have hfz112_0 := blk_frozen BK249.out 0; have hfz112_1 := blk_frozen BK249.out 1; obtain ⟨Ao113, co113, eo113⟩ := Kd.R_slice HO263.out; subst eo113))
               repeat (go_quiet (fail); try go_wp2_with (first | (go_at_call 78; (repeat rw [i64_w]); (try rw [show l1_0.length - 1 = (l1_0.drop 1).length from (by simp)]); (with_reducible refine (impl_joined.calls k4 _ _ x6_4 _ _ (l1_0.drop 1) t258 t261 t264 _ ?side1 ?side2 ?side3 ?side4 A103.out).mono ?_); (case side1 => exact cU (Kd.N_reads' HO_6.out).2.2); (case side2 => exact (Kd.N_reads' HO_6.out).2.1); (case side3 => exact cU (Kd.C_below HR257.out HB.out)); (case side4 => exact HC257.out); rintro e w109 ⟨v259, v262, rfl, ho0, ho1, hb⟩; replace HO_6 := Aside0.mk (Kd.N_mono (Kd.N_told (Kd.N_told (Kd.N_old (NU HO_6.out) hb) (Kd.R_base ho0)) (Kd.R_base ho1)) (fun _ h_ => h_.1)); replace HO_54 := Aside0.mk (Kd.N_mono (Kd.N_told (Kd.N_told (Kd.N_old (NU HO_54.out) hb) (Kd.R_base ho0)) (Kd.R_base ho1)) (fun _ h_ => h_.1)); have HO260 := Aside0.mk (Kd.R_lower ho0 (below_size (bS3 HB.out GE247.out GE248.out GE249.out))); have HO263 := Aside0.mk (Kd.R_lower ho1 (below_size (bS3 HB.out GE247.out GE248.out GE249.out))); replace BK247 := Aside0.mk (blk_below (g := gb247) (o := .cells #[.slice A0_0 l0_0.length c0_0, .slice A0_1 l0_1.length c0_1] 26 (0, 0)) (kU BK247.out) hb); replace BK248 := Aside0.mk (blk_below (g := gb248) (o := .cells #[.slice A1_0 l1_0.length c1_0, .slice A1_1 l1_1.length c1_1] 26 (0, 0)) (kU BK248.out) hb); replace BK249 := Aside0.mk (blk_below (g := gb249) (o := .cells #[.slice none 0 0, .slice none 0 0] 26 (0, 0)) (kU BK249.out) hb); replace HB := Aside0.mk (below_step (bS3 HB.out GE247.out GE248.out GE249.out) hb); (try clear hb); (try clear hb2); (try clear hk); (try clear hi); (try clear ho0); (try clear ho1); obtain ⟨Ao110, co110, eo110⟩ := Kd.R_slice HO260.out; subst eo110; have hnb111 := NB249_247.out; have hnc111 := NB247_249.out; have hcz112_0 : w109.cell? ⟨gb249, 0, none⟩ = some (.slice none 0 0) := (blk_cell BK249.out 0).trans rfl; have hcz112_1 : w109.cell? ⟨gb249, 1, none⟩ = some (.slice none 0 0) := (blk_cell BK249.out 1).trans rfl; have hfz112_0 := blk_frozen BK249.out 0; have hfz112_1 := blk_frozen BK249.out 1; obtain ⟨Ao113, co113, eo113⟩ := Kd.R_slice HO263.out; subst eo113)))
               refine bodyPost_ret (results_ct rfl _ _ gb249 26 #[.slice Ao110 t258.length co110, .slice Ao113 t261.length co113] (0, 0) _ rfl (by (with_reducible repeat (first | refine blk_drewN ?_ _ | refine blk_drew ?_ | refine blk_alloc ?_ _)); refine blk_put (cs := #[.slice Ao110 t258.length co110, .slice none 0 0]) ?_ 1 _ rfl; (with_reducible repeat (first | refine blk_drewN ?_ _ | refine blk_drew ?_ | refine blk_alloc ?_ _)); refine blk_put (cs := #[.slice none 0 0, .slice none 0 0]) ?_ 0 _ rfl; (with_reducible repeat (first | refine blk_drewN ?_ _ | refine blk_drew ?_ | refine blk_alloc ?_ _)); exact BK249.out) Try.underlying26 rfl (by kernel_rfl)) rfl ?_
               exact ⟨_, _, by first | rfl | (simp [errW_none, errW_some] <;> rfl) | (simp [*, errW_none, errW_some] <;> rfl), by (with_reducible repeat (first | apply Kd.R_alloc | apply Kd.R_drewN | apply Kd.R_drew)); exact Kd.R_mono (Kd.R_far (p := ⟨gb249, 1, none⟩) (Kd.R_far (p := ⟨gb249, 0, none⟩) (Kd.R_types HO260.out BK249.out (by decide)) (fun _ hk => hk.2) (.slice Ao110 t258.length co110)) (fun _ hk => hk.2) (.slice Ao113 t261.length co113)) (fun _ hk => hk.1), by (with_reducible repeat (first | apply Kd.R_alloc | apply Kd.R_drewN | apply Kd.R_drew)); exact Kd.R_mono (Kd.R_far (p := ⟨gb249, 1, none⟩) (Kd.R_far (p := ⟨gb249, 0, none⟩) (Kd.R_types HO263.out BK249.out (by decide)) (fun _ hk => hk.2) (.slice Ao110 t258.length co110)) (fun _ hk => hk.2) (.slice Ao113 t261.length co113)) (fun _ hk => hk.1), by repeat (first | (with_reducible first | exact HB.out | apply below_alloc | apply pw_below_drewN | apply below_drew1 | refine below_set ?_ GE247.out | refine below_set ?_ GE248.out | refine below_set ?_ GE249.out) | exact HB.out)⟩
              ·
               rw [if_neg c102] at H
               exact absurd H (by simp)

end Go.Proofs.Ytcnbajdnlkcjjaa.PFnExactCopy
