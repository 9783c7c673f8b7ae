/- The walk of what a law reaches, for the law's row: written by a program of this session; it has no condition of its own. -/
import Derived.Test.YtlaikodjcjfeiaaPFnEachx0
import Derived.Test.YtlaikodjcjfeiaaQ
import Derived.Test.YtlaikodjcjfeiaaPFnEachx1
import Derived.Test.YtlaikodjcjfeiaaPFnEachx8
import Derived.Test.YtlaikodjcjfeiaaPFnEachx9
import Derived.Test.YtlaikodjcjfeiaaPFnEachx10
namespace Go.Proofs.Ytlaikodjcjfeiaa.PFnEach
open Go.RowKit Go.Proofs.YtlaikodjcjfeiaaW.PrintWords Go.Proofs.YtlaikodjcjfeiaaW.PrintLast Go.Proofs.YtlaikodjcjfeiaaW.PrintMore Go.Proofs.YtlaikodjcjfeiaaQ
attribute [local go_sem] max2_int min2_int max_two min_two max_three min_three max_four min_four   -- for this text's walks alone
set_option linter.unusedVariables false
set_option linter.unusedSimpArgs false

/-! ### spec_EachTwo: function 18 -/
mutual
def spec_EachTwo.j0 : Nat → Int → Bool → List Int → List Int → List Int → List Int → Option (List Int × List Int × Int)
 | 0, _, _, _, _, _, _ => none
 | k + 1, x0, x26, x518000, x518001, x519000, x519001 => if x26 = true then (some (([] : List Int), ([] : List Int), 1)) else ((spec_Fit.f k x518000 x518001 x519000 x519001).bind fun bt523 => (if bt523.2 = 0 then (spec_EachTwo.l0 k x0 bt523.1 0 x518000 x518001 x519000 x519001 bt523.1 ([] : List Int)) else (some (([] : List Int), ([] : List Int), bt523.2))))
def spec_EachTwo.l0 : Nat → Int → List Int → Int → List Int → List Int → List Int → List Int → List Int → List Int → Option (List Int × List Int × Int)
 | 0, _, _, _, _, _, _, _, _, _ => none
 | k + 1, x0, x8, x11, x518000, x518001, x519000, x519001, x528000, x528001 => (spec_SizeOf.f k x8).bind fun t528 => (if x11 < t528 then ((spec_l4Of.f x518000 x518001 x11).bind fun t529 => ((spec_l4Of.f x519000 x519001 x11).bind fun t530 => ((spec_Two.f k x0 t529 t530).bind fun bt531 => (if bt531.2 = 0 then (if x528001.length < 17592186044416 then (spec_EachTwo.l0 k x0 x8 (wrap64 (x11 + 1)) x518000 x518001 x519000 x519001 x528000 (x528001 ++ [bt531.1])) else (none)) else (some (([] : List Int), ([] : List Int), bt531.2)))))) else (some (x528000, x528001, 0)))
end
def spec_EachTwo.f (k : Nat) (a0 : Int) (l1_0 : List Int) (l1_1 : List Int) (l2_0 : List Int) (l2_1 : List Int) : Option (List Int × List Int × Int) := (spec_ArrayOk.f k l1_0 l1_1).bind fun t520 => (if t520 = true then ((spec_ArrayOk.f k l2_0 l2_1).bind fun t521 => (if t521 = true then ((spec_l1Sign2.f a0).bind fun t522 => (spec_EachTwo.j0 k a0 (!t522) l1_0 l1_1 l2_0 l2_1)) else (spec_EachTwo.j0 k a0 true l1_0 l1_1 l2_0 l2_1))) else (spec_EachTwo.j0 k a0 true l1_0 l1_1 l2_0 l2_1))
def spec_EachTwo.T10 : Bool × List (List Nat × List Nat) := (true, [([], []), ([], []), ([], []), ([1, 2], [1, 2]), ([], []), ([], []), ([4, 5, 3], [4, 5]), ([0, 3, 6, 6], [0, 3, 6]), ([7], [7]), ([8], [8]), ([8], [8]), ([9, 7, 0, 1, 2, 3, 4, 5, 6, 7, 8, 9], [9]), ([10, 11, 0, 1, 2, 3, 4, 5, 6, 7, 8, 9, 10, 11], [10])])
def spec_EachTwo.B10 : List Nat := [0, 0, 0, 6, 0, 0, 62, 127, 255, 511, 511, 1023, 4095]
theorem spec_EachTwo.tab10 : rtab .any (opsOf Try.f18 10) = spec_EachTwo.T10 := by kernel_rfl
theorem spec_EachTwo.bits10 : waitsOk spec_EachTwo.T10.2 spec_EachTwo.B10 = true := by kernel_rfl
set_option maxHeartbeats 8000000 in
set_option maxRecDepth 100000 in
theorem spec_EachTwo.calls (k : Nat) (a0 : Int) (A1_0 : Option Addr) (c1_0 : Nat) (l1_0 : List Int) (A1_1 : Option Addr) (c1_1 : Nat) (l1_1 : List Int) (A2_0 : Option Addr) (c2_0 : Nat) (l2_0 : List Int) (A2_1 : Option Addr) (c2_1 : Nat) (l2_1 : List Int) (r1 : List Int) (r2 : List Int) (r3 : Int) (w : World) (hr1_0 : Kd.C (Kd.int .i64) w A1_0 l1_0.length l1_0) (hc1_0 : l1_0.length ≤ c1_0) (hr1_1 : Kd.C (Kd.int .i64) w A1_1 l1_1.length l1_1) (hc1_1 : l1_1.length ≤ c1_1) (hr2_0 : Kd.C (Kd.int .i64) w A2_0 l2_0.length l2_0) (hc2_0 : l2_0.length ≤ c2_0) (hr2_1 : Kd.C (Kd.int .i64) w A2_1 l2_1.length l2_1) (hc2_1 : l2_1.length ≤ c2_1) (h : spec_EachTwo.f k a0 l1_0 l1_1 l2_0 l2_1 = some (r1, r2, r3)) :
  Calls Try.prog 18 #[.int .i64 a0, .agg #[.slice A1_0 l1_0.length c1_0, .slice A1_1 l1_1.length c1_1], .agg #[.slice A2_0 l2_0.length c2_0, .slice A2_1 l2_1.length c2_1]] w fun e w' => ∃ v0_ v1_ : Value, e = .returned (.tuple #[.agg #[v0_, v1_], .int .i64 r3]) ∧ Kd.R (Kd.int .i64) 3 w' w.heap.size (fun k_ => some k_ ≠ (v1_ : Value).ownBlock) v0_ r1 ∧ Kd.R (Kd.int .i64) 3 w' w.heap.size (fun k_ => some k_ ≠ (v0_ : Value).ownBlock) v1_ r2 ∧ Below w.heap.size w w' := by
 have hu26 := Try.underlying26
 have HR1_0 := Aside0.mk hr1_0
 have HC1_0 := Aside0.mk hc1_0
 clear hr1_0 hc1_0
 have HR1_1 := Aside0.mk hr1_1
 have HC1_1 := Aside0.mk hc1_1
 clear hr1_1 hc1_1
 have HR2_0 := Aside0.mk hr2_0
 have HC2_0 := Aside0.mk hc2_0
 clear hr2_0 hc2_0
 have HR2_1 := Aside0.mk hr2_1
 have HC2_1 := Aside0.mk hc2_1
 clear hr2_1 hc2_1
 have HB := Aside0.mk (Below.refl w.heap.size w)
 have H : ((spec_ArrayOk.f k l1_0 l1_1).bind fun t520 => (if t520 = true then ((spec_ArrayOk.f k l2_0 l2_1).bind fun t521 => (if t521 = true then ((spec_l1Sign2.f a0).bind fun t522 => (spec_EachTwo.j0 k a0 (!t522) l1_0 l1_1 l2_0 l2_1)) else (spec_EachTwo.j0 k a0 true l1_0 l1_1 l2_0 l2_1))) else (spec_EachTwo.j0 k a0 true l1_0 l1_1 l2_0 l2_1))) = some (r1, r2, r3) := h
 clear h
 have HC4 := Aside0.mk H
 clear H
 go_enter Try.func18, Try.ntmps18
 go_upto_region 1 with (first | ((with_reducible refine gate_dst (N := 4) rfl ?_); refine box_event ?hg (N := 4) ?hd (cs := #[.slice A1_0 l1_0.length c1_0, .slice A1_1 l1_1.length c1_1]) (t := 26) ?hr ?_; (case hd => rfl); (case hg => rfl); (case hr => first | (go_simp; done) | (go_simp; rfl)); intro gb517 hg w5 hbox hb; have BK517 := Aside0.mk (hbox); have GW517 := Aside0.mk ((by rw [hg]; exact (below_size (bU HB.out)) : w.heap.size ≤ gb517)); have GE517 := Aside0.mk ((by rw [hg]; exact (below_size (bU HB.out)) : w.heap.size ≤ gb517)); replace HB := Aside0.mk (below_step (bU HB.out) hb); clear hb hbox hg) | ((with_reducible refine gate_dst (N := 5) rfl ?_); refine box_event ?hg (N := 5) ?hd (cs := #[.slice A2_0 l2_0.length c2_0, .slice A2_1 l2_1.length c2_1]) (t := 26) ?hr ?_; (case hd => rfl); (case hg => rfl); (case hr => first | (go_simp; done) | (go_simp; rfl)); intro gb518 hg w6 hbox hb; have BK518 := Aside0.mk (hbox); have GW518 := Aside0.mk ((by rw [hg]; exact (below_size (bS1 HB.out GE517.out)) : w.heap.size ≤ gb518)); have GE518 := Aside0.mk ((by rw [hg]; exact (below_size (bS1 HB.out GE517.out)) : w.heap.size ≤ gb518)); replace HB := Aside0.mk (below_step (bS1 HB.out GE517.out) hb); have NB517_518 := Aside0.mk ((by rw [hg]; exact Nat.ne_of_lt (blk_lt (g := gb517) (o := .cells #[.slice A1_0 l1_0.length c1_0, .slice A1_1 l1_1.length c1_1] 26 (0, 0)) (kU BK517.out)) : gb517 ≠ gb518)); have NB518_517 := Aside0.mk ((by rw [hg]; exact Nat.ne_of_gt (blk_lt (g := gb517) (o := .cells #[.slice A1_0 l1_0.length c1_0, .slice A1_1 l1_1.length c1_1] 26 (0, 0)) (kU BK517.out)) : gb518 ≠ gb517)); replace BK517 := Aside0.mk (blk_below (g := gb517) (o := .cells #[.slice A1_0 l1_0.length c1_0, .slice A1_1 l1_1.length c1_1] 26 (0, 0)) (kU BK517.out) hb); clear hb hbox hg) | ((with_reducible refine gate_dst (N := 6) rfl ?_); refine box_event ?hg (N := 6) ?hd (cs := #[.slice none 0 0, .slice none 0 0]) (t := 26) ?hr ?_; (case hd => rfl); (case hg => rfl); (case hr => first | (go_simp; done) | (go_simp; rfl)); intro gb519 hg w7 hbox hb; have BK519 := Aside0.mk (hbox); have GW519 := Aside0.mk ((by rw [hg]; exact (below_size (bS2 HB.out GE517.out GE518.out)) : w.heap.size ≤ gb519)); have GE519 := Aside0.mk ((by rw [hg]; exact (below_size (bS2 HB.out GE517.out GE518.out)) : w.heap.size ≤ gb519)); replace HB := Aside0.mk (below_step (bS2 HB.out GE517.out GE518.out) hb); have NB517_519 := Aside0.mk ((by rw [hg]; exact Nat.ne_of_lt (blk_lt (g := gb517) (o := .cells #[.slice A1_0 l1_0.length c1_0, .slice A1_1 l1_1.length c1_1] 26 (0, 0)) (kU BK517.out)) : gb517 ≠ gb519)); have NB519_517 := Aside0.mk ((by rw [hg]; exact Nat.ne_of_gt (blk_lt (g := gb517) (o := .cells #[.slice A1_0 l1_0.length c1_0, .slice A1_1 l1_1.length c1_1] 26 (0, 0)) (kU BK517.out)) : gb519 ≠ gb517)); replace BK517 := Aside0.mk (blk_below (g := gb517) (o := .cells #[.slice A1_0 l1_0.length c1_0, .slice A1_1 l1_1.length c1_1] 26 (0, 0)) (kU BK517.out) hb); have NB518_519 := Aside0.mk ((by rw [hg]; exact Nat.ne_of_lt (blk_lt (g := gb518) (o := .cells #[.slice A2_0 l2_0.length c2_0, .slice A2_1 l2_1.length c2_1] 26 (0, 0)) (kU BK518.out)) : gb518 ≠ gb519)); have NB519_518 := Aside0.mk ((by rw [hg]; exact Nat.ne_of_gt (blk_lt (g := gb518) (o := .cells #[.slice A2_0 l2_0.length c2_0, .slice A2_1 l2_1.length c2_1] 26 (0, 0)) (kU BK518.out)) : gb519 ≠ gb518)); replace BK518 := Aside0.mk (blk_below (g := gb518) (o := .cells #[.slice A2_0 l2_0.length c2_0, .slice A2_1 l2_1.length c2_1] 26 (0, 0)) (kU BK518.out) hb); clear hb hbox hg))
 (try simp only [Act.put, List.setIfInBounds_toArray, List.set_cons_zero, List.set_cons_succ])
 go_cut [26] (fun v26 wc => ∃ (kq : Nat) (x26_3 : Bool), v26 = .bool x26_3 ∧ Aside0 (spec_EachTwo.j0 kq a0 x26_3 l1_0 l1_1 l2_0 l2_1 = some (r1, r2, r3)) ∧ Aside0 (kq ≤ k) ∧ Aside0 (wc.heap[gb517]? = some (.cells #[(.slice A1_0 l1_0.length c1_0), (.slice A1_1 l1_1.length c1_1)] 26 (0, 0))) ∧ Aside0 (wc.heap[gb518]? = some (.cells #[(.slice A2_0 l2_0.length c2_0), (.slice A2_1 l2_1.length c2_1)] 26 (0, 0))) ∧ Aside0 (wc.heap[gb519]? = some (.cells #[(.slice none 0 0), (.slice none 0 0)] 26 (0, 0))) ∧ Aside0 (Below w.heap.size w wc))
 case first =>
  have H := HC4.out
  clear HC4
  replace H := Option.bind_eq_some_iff.mp H
  obtain ⟨t520, A80, H⟩ := H
  replace H : (if t520 = true then ((spec_ArrayOk.f k l2_0 l2_1).bind fun t521 => (if t521 = true then ((spec_l1Sign2.f a0).bind fun t522 => (spec_EachTwo.j0 k a0 (!t522) l1_0 l1_1 l2_0 l2_1)) else (spec_EachTwo.j0 k a0 true l1_0 l1_1 l2_0 l2_1))) else (spec_EachTwo.j0 k a0 true l1_0 l1_1 l2_0 l2_1)) = some (r1, r2, r3) := H
  have A8 := Aside0.mk A80
  clear A80
  by_cases c9 : t520 = true
  ·
   subst c9
   have H1 : ((spec_ArrayOk.f k l2_0 l2_1).bind fun t521 => (if t521 = true then ((spec_l1Sign2.f a0).bind fun t522 => (spec_EachTwo.j0 k a0 (!t522) l1_0 l1_1 l2_0 l2_1)) else (spec_EachTwo.j0 k a0 true l1_0 l1_1 l2_0 l2_1))) = some (r1, r2, r3) := by rw [if_pos rfl] at H; exact H
   clear H
   have H := H1
   clear H1
   replace H := Option.bind_eq_some_iff.mp H
   obtain ⟨t521, A100, H⟩ := H
   replace H : (if t521 = true then ((spec_l1Sign2.f a0).bind fun t522 => (spec_EachTwo.j0 k a0 (!t522) l1_0 l1_1 l2_0 l2_1)) else (spec_EachTwo.j0 k a0 true l1_0 l1_1 l2_0 l2_1)) = some (r1, r2, r3) := H
   have A10 := Aside0.mk A100
   clear A100
   by_cases c11 : t521 = true
   ·
    subst c11
    have H1 : ((spec_l1Sign2.f a0).bind fun t522 => (spec_EachTwo.j0 k a0 (!t522) l1_0 l1_1 l2_0 l2_1)) = some (r1, r2, r3) := by rw [if_pos rfl] at H; exact H
    clear H
    have H := H1
    clear H1
    replace H := Option.bind_eq_some_iff.mp H
    obtain ⟨t522, A120, H⟩ := H
    replace H : (spec_EachTwo.j0 k a0 (!t522) l1_0 l1_1 l2_0 l2_1) = some (r1, r2, r3) := H
    have A12 := Aside0.mk A120
    clear A120
    have H' := Aside0.mk H
    clear H
    have hnb13 := NB517_518.out
    have hnc13 := NB518_517.out
    have hnb14 := NB517_519.out
    have hnc14 := NB519_517.out
    have hcz15_0 : w7.cell? ⟨gb517, 0, none⟩ = some (.slice A1_0 l1_0.length c1_0) := (blk_cell BK517.out 0).trans rfl
    have hcz15_1 : w7.cell? ⟨gb517, 1, none⟩ = some (.slice A1_1 l1_1.length c1_1) := (blk_cell BK517.out 1).trans rfl
    have hfz15_0 := blk_frozen BK517.out 0
    have hfz15_1 := blk_frozen BK517.out 1
    go_wp2_with (first | ((with_reducible refine gate_callee (f := 74) rfl ?_); refine goesL_ (some 15) rfl rfl Try.func74 (by kernel_rfl) rfl #[.agg #[.slice A1_0 l1_0.length c1_0, .slice A1_1 l1_1.length c1_1]] rfl lU ?_; (with_reducible refine (spec_ArrayOk.calls k _ _ l1_0 _ _ l1_1 true _ ?side1 ?side2 ?side3 ?side4 A8.out).mono ?_); (case side1 => exact cU (Kd.C_below HR1_0.out HB.out)); (case side2 => exact HC1_0.out); (case side3 => exact cU (Kd.C_below HR1_1.out HB.out)); (case side4 => exact HC1_1.out); rintro e w16 ⟨rfl, hb⟩; refine ⟨_, rfl, ?_⟩; replace BK517 := Aside0.mk (blk_below (g := gb517) (o := .cells #[.slice A1_0 l1_0.length c1_0, .slice A1_1 l1_1.length c1_1] 26 (0, 0)) (kU BK517.out) hb); replace BK518 := Aside0.mk (blk_below (g := gb518) (o := .cells #[.slice A2_0 l2_0.length c2_0, .slice A2_1 l2_1.length c2_1] 26 (0, 0)) (kU BK518.out) hb); replace BK519 := Aside0.mk (blk_below (g := gb519) (o := .cells #[.slice none 0 0, .slice none 0 0] 26 (0, 0)) (kU BK519.out) hb); replace HB := Aside0.mk (below_step (bS3 HB.out GE517.out GE518.out GE519.out) hb); (try clear hb); (try clear hb2); (try clear hk); (try clear hi); have hnb17 := NB518_519.out; have hnc17 := NB519_518.out; have hcz18_0 : w16.cell? ⟨gb518, 0, none⟩ = some (.slice A2_0 l2_0.length c2_0) := (blk_cell BK518.out 0).trans rfl; have hcz18_1 : w16.cell? ⟨gb518, 1, none⟩ = some (.slice A2_1 l2_1.length c2_1) := (blk_cell BK518.out 1).trans rfl; have hfz18_0 := blk_frozen BK518.out 0; have hfz18_1 := blk_frozen BK518.out 1) | (go_at_call 74; (repeat rw [i64_w]); (with_reducible refine (spec_ArrayOk.calls k _ _ l2_0 _ _ l2_1 true _ ?side1 ?side2 ?side3 ?side4 A10.out).mono ?_); (case side1 => exact cU (Kd.C_below HR2_0.out HB.out)); (case side2 => exact HC2_0.out); (case side3 => exact cU (Kd.C_below HR2_1.out HB.out)); (case side4 => exact HC2_1.out); rintro e w19 ⟨rfl, hb⟩; replace BK517 := Aside0.mk (blk_below (g := gb517) (o := .cells #[.slice A1_0 l1_0.length c1_0, .slice A1_1 l1_1.length c1_1] 26 (0, 0)) (kU BK517.out) hb); replace BK518 := Aside0.mk (blk_below (g := gb518) (o := .cells #[.slice A2_0 l2_0.length c2_0, .slice A2_1 l2_1.length c2_1] 26 (0, 0)) (kU BK518.out) hb); replace BK519 := Aside0.mk (blk_below (g := gb519) (o := .cells #[.slice none 0 0, .slice none 0 0] 26 (0, 0)) (kU BK519.out) hb); replace HB := Aside0.mk (below_step (bS3 HB.out GE517.out GE518.out GE519.out) hb); (try clear hb); (try clear hb2); (try clear hk); (try clear hi)) | (go_at_call 75; (repeat rw [i64_w]); (with_reducible refine (spec_l1Sign2.calls a0 t522 _ A12.out).mono ?_); rintro e w' ⟨rfl, ⟨nd, rfl⟩⟩))
    go_meet
    case rel => exact ⟨_, (!t522), (by first | rfl | (simp; done) | (simp [*]; done)), H', ⟨by first | omega | exact Nat.le_refl _⟩, ⟨by refine kU ?_; exact BK517.out⟩, ⟨by refine kU ?_; exact BK518.out⟩, ⟨by refine kU ?_; exact BK519.out⟩, ⟨by exact bS3 HB.out GE517.out GE518.out GE519.out⟩⟩
   ·
    replace c11 := Bool.eq_false_iff.mpr c11
    subst c11
    have H1 : (spec_EachTwo.j0 k a0 true l1_0 l1_1 l2_0 l2_1) = some (r1, r2, r3) := by rw [if_neg (show ¬ (false = true) by decide)] at H; exact H
    clear H
    have H := H1
    clear H1
    have H' := Aside0.mk H
    clear H
    have hnb20 := NB517_518.out
    have hnc20 := NB518_517.out
    have hnb21 := NB517_519.out
    have hnc21 := NB519_517.out
    have hcz22_0 : w7.cell? ⟨gb517, 0, none⟩ = some (.slice A1_0 l1_0.length c1_0) := (blk_cell BK517.out 0).trans rfl
    have hcz22_1 : w7.cell? ⟨gb517, 1, none⟩ = some (.slice A1_1 l1_1.length c1_1) := (blk_cell BK517.out 1).trans rfl
    have hfz22_0 := blk_frozen BK517.out 0
    have hfz22_1 := blk_frozen BK517.out 1
    go_wp2_with (first | ((with_reducible refine gate_callee (f := 74) rfl ?_); refine goesL_ (some 15) rfl rfl Try.func74 (by kernel_rfl) rfl #[.agg #[.slice A1_0 l1_0.length c1_0, .slice A1_1 l1_1.length c1_1]] rfl lU ?_; (with_reducible refine (spec_ArrayOk.calls k _ _ l1_0 _ _ l1_1 true _ ?side1 ?side2 ?side3 ?side4 A8.out).mono ?_); (case side1 => exact cU (Kd.C_below HR1_0.out HB.out)); (case side2 => exact HC1_0.out); (case side3 => exact cU (Kd.C_below HR1_1.out HB.out)); (case side4 => exact HC1_1.out); rintro e w23 ⟨rfl, hb⟩; refine ⟨_, rfl, ?_⟩; replace BK517 := Aside0.mk (blk_below (g := gb517) (o := .cells #[.slice A1_0 l1_0.length c1_0, .slice A1_1 l1_1.length c1_1] 26 (0, 0)) (kU BK517.out) hb); replace BK518 := Aside0.mk (blk_below (g := gb518) (o := .cells #[.slice A2_0 l2_0.length c2_0, .slice A2_1 l2_1.length c2_1] 26 (0, 0)) (kU BK518.out) hb); replace BK519 := Aside0.mk (blk_below (g := gb519) (o := .cells #[.slice none 0 0, .slice none 0 0] 26 (0, 0)) (kU BK519.out) hb); replace HB := Aside0.mk (below_step (bS3 HB.out GE517.out GE518.out GE519.out) hb); (try clear hb); (try clear hb2); (try clear hk); (try clear hi); have hnb24 := NB518_519.out; have hnc24 := NB519_518.out; have hcz25_0 : w23.cell? ⟨gb518, 0, none⟩ = some (.slice A2_0 l2_0.length c2_0) := (blk_cell BK518.out 0).trans rfl; have hcz25_1 : w23.cell? ⟨gb518, 1, none⟩ = some (.slice A2_1 l2_1.length c2_1) := (blk_cell BK518.out 1).trans rfl; have hfz25_0 := blk_frozen BK518.out 0; have hfz25_1 := blk_frozen BK518.out 1) | (go_at_call 74; (repeat rw [i64_w]); (with_reducible refine (spec_ArrayOk.calls k _ _ l2_0 _ _ l2_1 false _ ?side1 ?side2 ?side3 ?side4 A10.out).mono ?_); (case side1 => exact cU (Kd.C_below HR2_0.out HB.out)); (case side2 => exact HC2_0.out); (case side3 => exact cU (Kd.C_below HR2_1.out HB.out)); (case side4 => exact HC2_1.out); rintro e w26 ⟨rfl, hb⟩; replace BK517 := Aside0.mk (blk_below (g := gb517) (o := .cells #[.slice A1_0 l1_0.length c1_0, .slice A1_1 l1_1.length c1_1] 26 (0, 0)) (kU BK517.out) hb); replace BK518 := Aside0.mk (blk_below (g := gb518) (o := .cells #[.slice A2_0 l2_0.length c2_0, .slice A2_1 l2_1.length c2_1] 26 (0, 0)) (kU BK518.out) hb); replace BK519 := Aside0.mk (blk_below (g := gb519) (o := .cells #[.slice none 0 0, .slice none 0 0] 26 (0, 0)) (kU BK519.out) hb); replace HB := Aside0.mk (below_step (bS3 HB.out GE517.out GE518.out GE519.out) hb); (try clear hb); (try clear hb2); (try clear hk); (try clear hi)))
    go_meet
    case rel => exact ⟨_, (true), (by first | rfl | (simp; done) | (simp [*]; done)), H', ⟨by first | omega | exact Nat.le_refl _⟩, ⟨by refine kU ?_; exact BK517.out⟩, ⟨by refine kU ?_; exact BK518.out⟩, ⟨by refine kU ?_; exact BK519.out⟩, ⟨by exact bS3 HB.out GE517.out GE518.out GE519.out⟩⟩
  ·
   replace c9 := Bool.eq_false_iff.mpr c9
   subst c9
   have H1 : (spec_EachTwo.j0 k a0 true l1_0 l1_1 l2_0 l2_1) = some (r1, r2, r3) := by rw [if_neg (show ¬ (false = true) by decide)] at H; exact H
   clear H
   have H := H1
   clear H1
   have H' := Aside0.mk H
   clear H
   have hnb27 := NB517_518.out
   have hnc27 := NB518_517.out
   have hnb28 := NB517_519.out
   have hnc28 := NB519_517.out
   have hcz29_0 : w7.cell? ⟨gb517, 0, none⟩ = some (.slice A1_0 l1_0.length c1_0) := (blk_cell BK517.out 0).trans rfl
   have hcz29_1 : w7.cell? ⟨gb517, 1, none⟩ = some (.slice A1_1 l1_1.length c1_1) := (blk_cell BK517.out 1).trans rfl
   have hfz29_0 := blk_frozen BK517.out 0
   have hfz29_1 := blk_frozen BK517.out 1
   go_wp2_with (first | ((with_reducible refine gate_callee (f := 74) rfl ?_); refine goesL_ (some 15) rfl rfl Try.func74 (by kernel_rfl) rfl #[.agg #[.slice A1_0 l1_0.length c1_0, .slice A1_1 l1_1.length c1_1]] rfl lU ?_; (with_reducible refine (spec_ArrayOk.calls k _ _ l1_0 _ _ l1_1 false _ ?side1 ?side2 ?side3 ?side4 A8.out).mono ?_); (case side1 => exact cU (Kd.C_below HR1_0.out HB.out)); (case side2 => exact HC1_0.out); (case side3 => exact cU (Kd.C_below HR1_1.out HB.out)); (case side4 => exact HC1_1.out); rintro e w30 ⟨rfl, hb⟩; refine ⟨_, rfl, ?_⟩; replace BK517 := Aside0.mk (blk_below (g := gb517) (o := .cells #[.slice A1_0 l1_0.length c1_0, .slice A1_1 l1_1.length c1_1] 26 (0, 0)) (kU BK517.out) hb); replace BK518 := Aside0.mk (blk_below (g := gb518) (o := .cells #[.slice A2_0 l2_0.length c2_0, .slice A2_1 l2_1.length c2_1] 26 (0, 0)) (kU BK518.out) hb); replace BK519 := Aside0.mk (blk_below (g := gb519) (o := .cells #[.slice none 0 0, .slice none 0 0] 26 (0, 0)) (kU BK519.out) hb); replace HB := Aside0.mk (below_step (bS3 HB.out GE517.out GE518.out GE519.out) hb); (try clear hb); (try clear hb2); (try clear hk); (try clear hi)))
   go_meet
   case rel => exact ⟨_, (true), (by first | rfl | (simp; done) | (simp [*]; done)), H', ⟨by first | omega | exact Nat.le_refl _⟩, ⟨by refine kU ?_; exact BK517.out⟩, ⟨by refine kU ?_; exact BK518.out⟩, ⟨by refine kU ?_; exact BK519.out⟩, ⟨by exact bS3 HB.out GE517.out GE518.out GE519.out⟩⟩
 case rest =>
  clear HC4
  try clear c1
  try clear c2
  try clear p2
  try clear c7
  try clear c9
  try clear c11
  try clear c13
  try clear c14
  try clear c17
  try clear c18
  try clear c20
  try clear c21
  try clear c24
  try clear c27
  try clear c28
  try clear hcz15_0
  try clear hcz15_1
  try clear hcz18_0
  try clear hcz18_1
  try clear hcz22_0
  try clear hcz22_1
  try clear hcz25_0
  try clear hcz25_1
  try clear hcz29_0
  try clear hcz29_1
  try clear hfz15_0
  try clear hfz15_1
  try clear hfz18_0
  try clear hfz18_1
  try clear hfz22_0
  try clear hfz22_1
  try clear hfz25_0
  try clear hfz25_1
  try clear hfz29_0
  try clear hfz29_1
  obtain ⟨kq, x26_3, rfl, HA, HJ3, BK517, BK518, BK519, HB⟩ := hcut
  cases kq with
  | zero => exact absurd HA.out (by simp [spec_EachTwo.j0])
  | succ kj3 =>
   have H := HA.out
   clear HA
   simp only [spec_EachTwo.j0] at H
   by_cases c31 : x26_3 = true
   ·
    subst c31
    have H1 : (some (([] : List Int), ([] : List Int), 1)) = some (r1, r2, r3) := by rw [if_pos rfl] at H; exact H
    clear H
    have H := H1
    clear H1
    simp only [Option.some.injEq, Prod.mk.injEq] at H
    obtain ⟨rfl, rfl, rfl⟩ := H
    have hnb32 := NB519_517.out
    have hnc32 := NB517_519.out
    have hnb33 := NB519_518.out
    have hnc33 := NB518_519.out
    have hcz34_0 : wc.cell? ⟨gb519, 0, none⟩ = some (.slice none 0 0) := (blk_cell BK519.out 0).trans rfl
    have hcz34_1 : wc.cell? ⟨gb519, 1, none⟩ = some (.slice none 0 0) := (blk_cell BK519.out 1).trans rfl
    have hfz34_0 := blk_frozen BK519.out 0
    have hfz34_1 := blk_frozen BK519.out 1
    go_wp2
    refine bodyPost_ret (results_ct rfl _ _ gb519 26 #[.slice none 0 0, .slice none 0 0] (0, 0) _ rfl (by refine kU ?_; refine blk_put (cs := #[.slice none 0 0, .slice none 0 0]) ?_ 1 _ rfl; refine kU ?_; refine blk_put (cs := #[.slice none 0 0, .slice none 0 0]) ?_ 0 _ rfl; refine kU ?_; exact BK519.out) Try.underlying26 rfl (by kernel_rfl)) rfl ?_
    exact ⟨_, _, by first | rfl | (simp [errW_none, errW_some] <;> rfl) | (simp [*, errW_none, errW_some] <;> rfl), by first | exact Kd.R_nil _ _ _ _ _ | exact Kd.N_nil _ _ _ _ _ | exact Kd.V_nil _ _ _ _ _ | exact Kd.Q_nil _ _ _ _ _ | exact Kd.S_nil _ _ _ _ _, by first | exact Kd.R_nil _ _ _ _ _ | exact Kd.N_nil _ _ _ _ _ | exact Kd.V_nil _ _ _ _ _ | exact Kd.Q_nil _ _ _ _ _ | exact Kd.S_nil _ _ _ _ _, by exact bS3 HB.out GE517.out GE518.out GE519.out⟩
   ·
    replace c31 := Bool.eq_false_iff.mpr c31
    subst c31
    have H1 : ((spec_Fit.f kj3 l1_0 l1_1 l2_0 l2_1).bind fun bt523 => (if bt523.2 = 0 then (spec_EachTwo.l0 kj3 a0 bt523.1 0 l1_0 l1_1 l2_0 l2_1 bt523.1 ([] : List Int)) else (some (([] : List Int), ([] : List Int), bt523.2)))) = some (r1, r2, r3) := by rw [if_neg (show ¬ (false = true) by decide)] at H; exact H
    clear H
    have H := H1
    clear H1
    replace H := Option.bind_eq_some_iff.mp H
    obtain ⟨⟨t523, t526⟩, A350, H⟩ := H
    replace H : (if t526 = 0 then (spec_EachTwo.l0 kj3 a0 t523 0 l1_0 l1_1 l2_0 l2_1 t523 ([] : List Int)) else (some (([] : List Int), ([] : List Int), t526))) = some (r1, r2, r3) := H
    have A35 := Aside0.mk A350
    clear A350
    by_cases c36 : t526 = 0
    ·
     rw [if_pos c36] at H
     have c36b0 : (t526 == 0) = true := beq_iff_eq.mpr c36
     have c36b1 : (t526 != 0) = false := bne_eq_false_iff_eq.mpr c36
     clear c36
     have H' := Aside0.mk H
     clear H
     have hnb37 := NB517_518.out
     have hnc37 := NB518_517.out
     have hnb38 := NB517_519.out
     have hnc38 := NB519_517.out
     have hcz39_0 : wc.cell? ⟨gb517, 0, none⟩ = some (.slice A1_0 l1_0.length c1_0) := (blk_cell BK517.out 0).trans rfl
     have hcz39_1 : wc.cell? ⟨gb517, 1, none⟩ = some (.slice A1_1 l1_1.length c1_1) := (blk_cell BK517.out 1).trans rfl
     have hfz39_0 := blk_frozen BK517.out 0
     have hfz39_1 := blk_frozen BK517.out 1
     have hnb40 := NB518_519.out
     have hnc40 := NB519_518.out
     have hcz41_0 : wc.cell? ⟨gb518, 0, none⟩ = some (.slice A2_0 l2_0.length c2_0) := (blk_cell BK518.out 0).trans rfl
     have hcz41_1 : wc.cell? ⟨gb518, 1, none⟩ = some (.slice A2_1 l2_1.length c2_1) := (blk_cell BK518.out 1).trans rfl
     have hfz41_0 := blk_frozen BK518.out 0
     have hfz41_1 := blk_frozen BK518.out 1
     go_wp2_with (first | ((with_reducible refine gate_callee (f := 38) rfl ?_); refine goesL_ (some 31) rfl rfl Try.func38 (by kernel_rfl) rfl #[.agg #[.slice A1_0 l1_0.length c1_0, .slice A1_1 l1_1.length c1_1], .agg #[.slice A2_0 l2_0.length c2_0, .slice A2_1 l2_1.length c2_1]] rfl lU ?_; (with_reducible refine (spec_Fit.calls kj3 _ _ l1_0 _ _ l1_1 _ _ l2_0 _ _ l2_1 t523 t526 _ ?side1 ?side2 ?side3 ?side4 ?side5 ?side6 ?side7 ?side8 A35.out).mono ?_); (case side1 => exact cU (Kd.C_below HR1_0.out HB.out)); (case side2 => exact HC1_0.out); (case side3 => exact cU (Kd.C_below HR1_1.out HB.out)); (case side4 => exact HC1_1.out); (case side5 => exact cU (Kd.C_below HR2_0.out HB.out)); (case side6 => exact HC2_0.out); (case side7 => exact cU (Kd.C_below HR2_1.out HB.out)); (case side8 => exact HC2_1.out); rintro e w42 ⟨v524, rfl, ho0, hb⟩; refine ⟨_, rfl, ?_⟩; have HO525 := Aside0.mk (Kd.R_lower ho0 (below_size (bS3 HB.out GE517.out GE518.out GE519.out))); replace BK517 := Aside0.mk (blk_below (g := gb517) (o := .cells #[.slice A1_0 l1_0.length c1_0, .slice A1_1 l1_1.length c1_1] 26 (0, 0)) (kU BK517.out) hb); replace BK518 := Aside0.mk (blk_below (g := gb518) (o := .cells #[.slice A2_0 l2_0.length c2_0, .slice A2_1 l2_1.length c2_1] 26 (0, 0)) (kU BK518.out) hb); replace BK519 := Aside0.mk (blk_below (g := gb519) (o := .cells #[.slice none 0 0, .slice none 0 0] 26 (0, 0)) (kU BK519.out) hb); replace HB := Aside0.mk (below_step (bS3 HB.out GE517.out GE518.out GE519.out) hb); (try clear hb); (try clear hb2); (try clear hk); (try clear hi); (try clear ho0); obtain ⟨Ao43, co43, eo43⟩ := Kd.R_slice HO525.out; subst eo43) | ((with_reducible refine gate_dst (N := 10) rfl ?_); refine box_event ?hg (N := 10) ?hd (cs := #[.slice none 0 0, .slice none 0 0]) (t := 26) ?hr ?_; (case hd => rfl); (case hg => rfl); (case hr => first | (go_simp; done) | (go_simp; rfl)); intro gb527 hg w44 hbox hb; replace HO525 := Aside0.mk (Kd.R_below (RU HO525.out) hb); have BK527 := Aside0.mk (hbox); have GW527 := Aside0.mk ((by rw [hg]; exact (below_size (bS3 HB.out GE517.out GE518.out GE519.out)) : w.heap.size ≤ gb527)); have GE527 := Aside0.mk ((by rw [hg]; exact (below_size (bS3 HB.out GE517.out GE518.out GE519.out)) : w.heap.size ≤ gb527)); replace HB := Aside0.mk (below_step (bS3 HB.out GE517.out GE518.out GE519.out) hb); have NB517_527 := Aside0.mk ((by rw [hg]; exact Nat.ne_of_lt (blk_lt (g := gb517) (o := .cells #[.slice A1_0 l1_0.length c1_0, .slice A1_1 l1_1.length c1_1] 26 (0, 0)) (kU BK517.out)) : gb517 ≠ gb527)); have NB527_517 := Aside0.mk ((by rw [hg]; exact Nat.ne_of_gt (blk_lt (g := gb517) (o := .cells #[.slice A1_0 l1_0.length c1_0, .slice A1_1 l1_1.length c1_1] 26 (0, 0)) (kU BK517.out)) : gb527 ≠ gb517)); replace BK517 := Aside0.mk (blk_below (g := gb517) (o := .cells #[.slice A1_0 l1_0.length c1_0, .slice A1_1 l1_1.length c1_1] 26 (0, 0)) (kU BK517.out) hb); have NB518_527 := Aside0.mk ((by rw [hg]; exact Nat.ne_of_lt (blk_lt (g := gb518) (o := .cells #[.slice A2_0 l2_0.length c2_0, .slice A2_1 l2_1.length c2_1] 26 (0, 0)) (kU BK518.out)) : gb518 ≠ gb527)); have NB527_518 := Aside0.mk ((by rw [hg]; exact Nat.ne_of_gt (blk_lt (g := gb518) (o := .cells #[.slice A2_0 l2_0.length c2_0, .slice A2_1 l2_1.length c2_1] 26 (0, 0)) (kU BK518.out)) : gb527 ≠ gb518)); replace BK518 := Aside0.mk (blk_below (g := gb518) (o := .cells #[.slice A2_0 l2_0.length c2_0, .slice A2_1 l2_1.length c2_1] 26 (0, 0)) (kU BK518.out) hb); have NB519_527 := Aside0.mk ((by rw [hg]; exact Nat.ne_of_lt (blk_lt (g := gb519) (o := .cells #[.slice none 0 0, .slice none 0 0] 26 (0, 0)) (kU BK519.out)) : gb519 ≠ gb527)); have NB527_519 := Aside0.mk ((by rw [hg]; exact Nat.ne_of_gt (blk_lt (g := gb519) (o := .cells #[.slice none 0 0, .slice none 0 0] 26 (0, 0)) (kU BK519.out)) : gb527 ≠ gb519)); replace BK519 := Aside0.mk (blk_below (g := gb519) (o := .cells #[.slice none 0 0, .slice none 0 0] 26 (0, 0)) (kU BK519.out) hb); clear hb hbox hg; have hnb45 := NB527_517.out; have hnc45 := NB517_527.out; have hnb46 := NB527_518.out; have hnc46 := NB518_527.out; have hnb47 := NB527_519.out; have hnc47 := NB519_527.out; have hcz48_0 : w44.cell? ⟨gb527, 0, none⟩ = some (.slice none 0 0) := (blk_cell BK527.out 0).trans rfl; have hcz48_1 : w44.cell? ⟨gb527, 1, none⟩ = some (.slice none 0 0) := (blk_cell BK527.out 1).trans rfl; have hfz48_0 := blk_frozen BK527.out 0; have hfz48_1 := blk_frozen BK527.out 1))
     go_loopg [11] kj3 (fun kq v11 w' => ∃ (x11_2 : Int) (x528001_2 : List Int) (u528001 : Value), v11 = .int .i64 x11_2 ∧ Aside0 (spec_EachTwo.l0 kq a0 t523 x11_2 l1_0 l1_1 l2_0 l2_1 t523 x528001_2 = some (r1, r2, r3)) ∧ Aside0 (kq ≤ kj3) ∧ Aside0 (Kd.R (Kd.int .i64) 3 w' w.heap.size (fun k_ => some k_ ≠ (u528001 : Value).ownBlock) (.slice Ao43 t523.length co43) t523) ∧ Aside0 (Kd.R (Kd.int .i64) 3 w' w.heap.size (fun k_ => some k_ ≠ (u528001 : Value).ownBlock) (.slice Ao43 t523.length co43) t523) ∧ Aside0 (Kd.R (Kd.int .i64) 3 w' w.heap.size (fun k_ => some k_ ≠ ((.slice Ao43 t523.length co43) : Value).ownBlock ∧ some k_ ≠ ((.slice Ao43 t523.length co43) : Value).ownBlock) u528001 x528001_2) ∧ Aside0 (w'.heap[gb517]? = some (.cells #[(.slice A1_0 l1_0.length c1_0), (.slice A1_1 l1_1.length c1_1)] 26 (0, 0))) ∧ Aside0 (w'.heap[gb518]? = some (.cells #[(.slice A2_0 l2_0.length c2_0), (.slice A2_1 l2_1.length c2_1)] 26 (0, 0))) ∧ Aside0 (w'.heap[gb519]? = some (.cells #[(.slice none 0 0), (.slice none 0 0)] 26 (0, 0))) ∧ Aside0 (w'.heap[gb527]? = some (.cells #[(.slice Ao43 t523.length co43), u528001] 26 (0, 0))) ∧ Aside0 (Below w.heap.size w w'))
     case atStart => exact ⟨(0), (([] : List Int)), (.slice none 0 0), (by first | rfl | (simp; done) | (simp [*]; done)), H', ⟨Nat.le_refl _⟩, ⟨by refine RU ?_; exact Kd.R_mono (Kd.R_far (p := ⟨gb527, 1, none⟩) (Kd.R_far (p := ⟨gb527, 0, none⟩) (Kd.R_types HO525.out BK527.out (by decide)) (fun _ hk => hk.2) (.slice Ao43 t523.length co43)) (fun _ hk => hk.2) (.slice none 0 0)) (fun _ hk => (by simp [Value.ownBlock]))⟩, ⟨by refine RU ?_; exact Kd.R_mono (Kd.R_far (p := ⟨gb527, 1, none⟩) (Kd.R_far (p := ⟨gb527, 0, none⟩) (Kd.R_types HO525.out BK527.out (by decide)) (fun _ hk => hk.2) (.slice Ao43 t523.length co43)) (fun _ hk => hk.2) (.slice none 0 0)) (fun _ hk => (by simp [Value.ownBlock]))⟩, ⟨by first | exact Kd.R_nil _ _ _ _ _ | exact Kd.N_nil _ _ _ _ _ | exact Kd.V_nil _ _ _ _ _ | exact Kd.Q_nil _ _ _ _ _ | exact Kd.S_nil _ _ _ _ _⟩, ⟨by refine kU ?_; refine blk_far ?_ NB517_527.out _; refine kU ?_; refine blk_far ?_ NB517_527.out _; refine kU ?_; exact BK517.out⟩, ⟨by refine kU ?_; refine blk_far ?_ NB518_527.out _; refine kU ?_; refine blk_far ?_ NB518_527.out _; refine kU ?_; exact BK518.out⟩, ⟨by refine kU ?_; refine blk_far ?_ NB519_527.out _; refine kU ?_; refine blk_far ?_ NB519_527.out _; refine kU ?_; exact BK519.out⟩, ⟨by refine kU ?_; refine blk_put (cs := #[.slice Ao43 t523.length co43, .slice none 0 0]) ?_ 1 _ rfl; refine kU ?_; refine blk_put (cs := #[.slice none 0 0, .slice none 0 0]) ?_ 0 _ rfl; refine kU ?_; exact BK527.out⟩, ⟨by exact bS4 HB.out GE517.out GE518.out GE519.out GE527.out⟩⟩
     case round =>
      clear H'
      try clear c1
      try clear c2
      try clear p2
      try clear c3
      try clear c4
      try clear c7
      try clear c9
      try clear c11
      try clear c13
      try clear c14
      try clear c17
      try clear c18
      try clear c20
      try clear c21
      try clear c24
      try clear c27
      try clear c28
      try clear c31
      try clear c32
      try clear c33
      try clear c36
      try clear c36b0
      try clear c36b1
      try clear c37
      try clear c38
      try clear c40
      try clear c45
      try clear c46
      try clear c47
      try clear hcz15_0
      try clear hcz15_1
      try clear hcz18_0
      try clear hcz18_1
      try clear hcz22_0
      try clear hcz22_1
      try clear hcz25_0
      try clear hcz25_1
      try clear hcz29_0
      try clear hcz29_1
      try clear hcz34_0
      try clear hcz34_1
      try clear hcz39_0
      try clear hcz39_1
      try clear hcz41_0
      try clear hcz41_1
      try clear hcz48_0
      try clear hcz48_1
      try clear hfz15_0
      try clear hfz15_1
      try clear hfz18_0
      try clear hfz18_1
      try clear hfz22_0
      try clear hfz22_1
      try clear hfz25_0
      try clear hfz25_1
      try clear hfz29_0
      try clear hfz29_1
      try clear hfz34_0
      try clear hfz34_1
      try clear hfz39_0
      try clear hfz39_1
      try clear hfz41_0
      try clear hfz41_1
      try clear hfz48_0
      try clear hfz48_1
      try clear p2
      obtain ⟨x11_2, x528001_2, u528001, rfl, HA, HK2, HO_8, HO_528000, HO_528001, BK517, BK518, BK519, BK527, HB⟩ := hrel
      cases gk with
      | zero => exact absurd HA.out (by simp [spec_EachTwo.l0])
      | succ k2 =>
       have H := HA.out
       clear HA
       simp only [spec_EachTwo.l0] at H
       replace H := Option.bind_eq_some_iff.mp H
       obtain ⟨t528, A490, H⟩ := H
       replace H : (if x11_2 < t528 then ((spec_l4Of.f l1_0 l1_1 x11_2).bind fun t529 => ((spec_l4Of.f l2_0 l2_1 x11_2).bind fun t530 => ((spec_Two.f k2 a0 t529 t530).bind fun bt531 => (if bt531.2 = 0 then (if x528001_2.length < 17592186044416 then (spec_EachTwo.l0 k2 a0 t523 (wrap64 (x11_2 + 1)) l1_0 l1_1 l2_0 l2_1 t523 (x528001_2 ++ [bt531.1])) else (none)) else (some (([] : List Int), ([] : List Int), bt531.2)))))) else (some (t523, x528001_2, 0))) = some (r1, r2, r3) := H
       have A49 := Aside0.mk A490
       clear A490
       by_cases c50 : x11_2 < t528
       ·
        rw [if_pos c50] at H
        have c50b0 : decide (x11_2 < t528) = true := decide_eq_true c50
        clear c50
        replace H := Option.bind_eq_some_iff.mp H
        obtain ⟨t529, A510, H⟩ := H
        replace H : ((spec_l4Of.f l2_0 l2_1 x11_2).bind fun t530 => ((spec_Two.f k2 a0 t529 t530).bind fun bt531 => (if bt531.2 = 0 then (if x528001_2.length < 17592186044416 then (spec_EachTwo.l0 k2 a0 t523 (wrap64 (x11_2 + 1)) l1_0 l1_1 l2_0 l2_1 t523 (x528001_2 ++ [bt531.1])) else (none)) else (some (([] : List Int), ([] : List Int), bt531.2))))) = some (r1, r2, r3) := H
        have A51 := Aside0.mk A510
        clear A510
        replace H := Option.bind_eq_some_iff.mp H
        obtain ⟨t530, A520, H⟩ := H
        replace H : ((spec_Two.f k2 a0 t529 t530).bind fun bt531 => (if bt531.2 = 0 then (if x528001_2.length < 17592186044416 then (spec_EachTwo.l0 k2 a0 t523 (wrap64 (x11_2 + 1)) l1_0 l1_1 l2_0 l2_1 t523 (x528001_2 ++ [bt531.1])) else (none)) else (some (([] : List Int), ([] : List Int), bt531.2)))) = some (r1, r2, r3) := H
        have A52 := Aside0.mk A520
        clear A520
        replace H := Option.bind_eq_some_iff.mp H
        obtain ⟨⟨t531, t532⟩, A530, H⟩ := H
        replace H : (if t532 = 0 then (if x528001_2.length < 17592186044416 then (spec_EachTwo.l0 k2 a0 t523 (wrap64 (x11_2 + 1)) l1_0 l1_1 l2_0 l2_1 t523 (x528001_2 ++ [t531])) else (none)) else (some (([] : List Int), ([] : List Int), t532))) = some (r1, r2, r3) := H
        have A53 := Aside0.mk A530
        clear A530
        by_cases c54 : t532 = 0
        ·
         rw [if_pos c54] at H
         have c54b0 : (t532 == 0) = true := beq_iff_eq.mpr c54
         have c54b1 : (t532 != 0) = false := bne_eq_false_iff_eq.mpr c54
         clear c54
         by_cases c55 : x528001_2.length < 17592186044416
         ·
          rw [if_pos c55] at H
          have LMc55 := Aside0.mk c55
          clear c55
          obtain ⟨y533, hy533⟩ : ∃ y_ : List Int, y_ = (x528001_2 ++ [t531]) := ⟨_, rfl⟩
          replace H : (spec_EachTwo.l0 k2 a0 t523 (wrap64 (x11_2 + 1)) l1_0 l1_1 l2_0 l2_1 t523 y533) = some (r1, r2, r3) := by first | (rw [hy533]; with_reducible exact H) | (have H2_ := (Option.bind_some _ _).symm.trans H; rw [hy533]; with_reducible exact H2_) | (have H2_ := (Option.bind_some _ _).symm.trans H; with_reducible exact H2_) | with_reducible exact H | (rw [hy533]; exact H) | exact H
          have Ny533 := Aside0.mk hy533
          clear hy533
          have H' := Aside0.mk H
          clear H
          try go_wp2_with (first | ((with_reducible refine gate_callee (f := 45) rfl ?_); refine goesL_ (some 42) rfl rfl Try.func45 (by kernel_rfl) rfl #[.slice Ao43 t523.length co43] rfl lU ?_; (with_reducible refine (spec_SizeOf.calls k2 _ _ t523 t528 _ ?side1 ?side2 A49.out).mono ?_); (case side1 => exact cU (Kd.R_reads' HO_8.out).2.2); (case side2 => exact (Kd.R_reads' HO_8.out).2.1); rintro e w' ⟨rfl, ⟨nd, rfl⟩⟩; refine ⟨_, rfl, ?_⟩; (try (rw [drewN_self wr]; generalize hq_ : World.drewN wr _ = wr; have n0_ : Aside0 (Kd.R (Kd.int .i64) 3 wr w.heap.size (fun k_ => some k_ ≠ (u528001 : Value).ownBlock) (.slice Ao43 t523.length co43) t523) := ⟨by rw [← hq_]; exact (RU HO_528000.out)⟩; have n1_ : Aside0 (Kd.R (Kd.int .i64) 3 wr w.heap.size (fun k_ => some k_ ≠ (.slice Ao43 t523.length co43 : Value).ownBlock ∧ some k_ ≠ (.slice Ao43 t523.length co43 : Value).ownBlock) u528001 x528001_2) := ⟨by rw [← hq_]; exact (by refine RU ?_; exact Kd.R_mono HO_528001.out (fun _ hk => ⟨hk.2, hk.1⟩))⟩; have n2_ : Aside0 (Kd.R (Kd.int .i64) 3 wr w.heap.size (fun k_ => some k_ ≠ (u528001 : Value).ownBlock) (.slice Ao43 t523.length co43) t523) := ⟨by rw [← hq_]; exact (RU HO_8.out)⟩; have n3_ : Aside0 (wr.heap[gb517]? = some (.cells #[.slice A1_0 l1_0.length c1_0, .slice A1_1 l1_1.length c1_1] 26 (0, 0))) := ⟨by rw [← hq_]; exact (kU BK517.out)⟩; have n4_ : Aside0 (wr.heap[gb518]? = some (.cells #[.slice A2_0 l2_0.length c2_0, .slice A2_1 l2_1.length c2_1] 26 (0, 0))) := ⟨by rw [← hq_]; exact (kU BK518.out)⟩; have n5_ : Aside0 (wr.heap[gb519]? = some (.cells #[.slice none 0 0, .slice none 0 0] 26 (0, 0))) := ⟨by rw [← hq_]; exact (kU BK519.out)⟩; have n6_ : Aside0 (wr.heap[gb527]? = some (.cells #[.slice Ao43 t523.length co43, u528001] 26 (0, 0))) := ⟨by rw [← hq_]; exact (kU BK527.out)⟩; have n7_ : Aside0 (Below w.heap.size w wr) := ⟨by rw [← hq_]; exact (bS4 HB.out GE517.out GE518.out GE519.out GE527.out)⟩; clear HO_528000 HO_528001 HO_8 BK517 BK518 BK519 BK527 HB hq_; have HO_528000 := n0_; have HO_528001 := n1_; have HO_8 := n2_; have BK517 := n3_; have BK518 := n4_; have BK519 := n5_; have BK527 := n6_; have HB := n7_; clear n0_ n1_ n2_ n3_ n4_ n5_ n6_ n7_))))
          replace HO_8 := Aside0.mk (Kd.R_drew HO_8.out)
          replace HO_528000 := Aside0.mk (Kd.R_drew HO_528000.out)
          replace HO_528001 := Aside0.mk (Kd.R_drew HO_528001.out)
          replace BK517 := Aside0.mk (blk_drew BK517.out)
          replace BK518 := Aside0.mk (blk_drew BK518.out)
          replace BK519 := Aside0.mk (blk_drew BK519.out)
          replace BK527 := Aside0.mk (blk_drew BK527.out)
          replace HB := Aside0.mk (below_drew1 HB.out)
          refine start_ (n := 13) (S := fun w' => w'.cell? ⟨gb517, 0, none⟩ = some (.slice A1_0 l1_0.length c1_0) ∧ w'.cell? ⟨gb517, 1, none⟩ = some (.slice A1_1 l1_1.length c1_1) ∧ w'.cell? ⟨gb518, 0, none⟩ = some (.slice A2_0 l2_0.length c2_0) ∧ w'.cell? ⟨gb518, 1, none⟩ = some (.slice A2_1 l2_1.length c2_1)) (ds := []) #[false, false, false, false, false, false, false, false, false, false, false, false, false] (by kernel_rfl) rfl rfl ⟨(blk_cell BK517.out 0).trans rfl, (blk_cell BK517.out 1).trans rfl, (blk_cell BK518.out 0).trans rfl, (blk_cell BK518.out 1).trans rfl⟩ (fun hHeld => ?_); refine with_tabW spec_EachTwo.tab10 spec_EachTwo.bits10 (fun HT_ HW_ => ?_)
          generalize wr.drew = w56 at HO_8 HO_528000 HO_528001 BK517 BK518 BK519 BK527 HB hHeld ⊢
          refine pure_ (i := 0) (N := some 47) (v := ?_) (a' := ?_) #[true, false, false, false, false, false, false, false, false, false, false, false, false] rfl rfl (any_of HT_.out (by kernel_rfl)) (fun _ _ _ h => h) (Or.inl ⟨by rfl, ?_⟩) ?_ ?_
          rotate_left
          ·
           intro w'
           go_simp
           with_reducible rfl
          rotate_left
          ·
           simp only [Act.put, List.setIfInBounds_toArray, List.set_cons_zero, List.set_cons_succ, i64_w, i32_w]
           rfl
          refine pure_ (i := 2) (N := some 49) (v := ?_) (a' := ?_) #[true, false, true, false, false, false, false, false, false, false, false, false, false] rfl rfl (any_of HT_.out (by kernel_rfl)) (fun _ _ _ h => h) (Or.inl ⟨by rfl, ?_⟩) ?_ ?_
          rotate_left
          ·
           intro w'
           go_simp
           with_reducible rfl
          rotate_left
          ·
           simp only [Act.put, List.setIfInBounds_toArray, List.set_cons_zero, List.set_cons_succ, i64_w, i32_w]
           rfl
          refine pure_ (i := 5) (N := some 52) (v := ?_) (a' := ?_) #[true, false, true, false, false, true, false, false, false, false, false, false, false] rfl rfl (any_of HT_.out (by kernel_rfl)) (fun _ _ _ h => h) (Or.inl ⟨by rfl, ?_⟩) ?_ ?_
          rotate_left
          ·
           intro w'
           go_simp
           with_reducible rfl
          rotate_left
          ·
           simp only [Act.put, List.setIfInBounds_toArray, List.set_cons_zero, List.set_cons_succ, i64_w, i32_w]
           rfl
          refine take_ (i := 1) (N := some 48) (v := ?_) (a' := ?_) #[true, true, true, false, false, true, false, false, false, false, false, false, false] rfl rfl (take_ofW HT_.out HW_.out (by kernel_rfl)) (fun _ _ _ h => h) (Or.inl ⟨by rfl, ?_⟩) hHeld ?_ ?_
          rotate_left
          ·
           rintro w' ⟨s0, s1, s2, s3⟩
           go_simp
           with_reducible rfl
          rotate_left
          ·
           simp only [Act.put, List.setIfInBounds_toArray, List.set_cons_zero, List.set_cons_succ, i64_w, i32_w]
           rfl
          refine take_ (i := 4) (N := some 51) (v := ?_) (a' := ?_) #[true, true, true, false, true, true, false, false, false, false, false, false, false] rfl rfl (take_ofW HT_.out HW_.out (by kernel_rfl)) (fun _ _ _ h => h) (Or.inl ⟨by rfl, ?_⟩) hHeld ?_ ?_
          rotate_left
          ·
           rintro w' ⟨s0, s1, s2, s3⟩
           go_simp
           with_reducible rfl
          rotate_left
          ·
           simp only [Act.put, List.setIfInBounds_toArray, List.set_cons_zero, List.set_cons_succ, i64_w, i32_w]
           rfl
          refine one_ (i := 3) (N := some 50) #[true, true, true, true, true, true, false, false, false, false, false, false, false] rfl rfl (one_of HT_.out (by kernel_rfl)) (by decide) (fun K hK => ?_)
          refine goes_ Try.func76 (by kernel_rfl) rfl #[.agg #[.slice A1_0 l1_0.length c1_0, .slice A1_1 l1_1.length c1_1], .int .i64 x11_2] (by rfl) rfl rfl lU ?_
          with_reducible refine (spec_l4Of.calls _ _ l1_0 _ _ l1_1 x11_2 t529 _ ?side1 ?side2 ?side3 ?side4 A51.out).mono ?_
          (case side1 => exact cU (Kd.C_below HR1_0.out HB.out))
          (case side2 => exact HC1_0.out)
          (case side3 => exact cU (Kd.C_below HR1_1.out HB.out))
          (case side4 => exact HC1_1.out)
          rintro e w57 ⟨rfl, hb⟩
          refine ⟨_, rfl, ?_⟩
          replace HO_8 := Aside0.mk (Kd.R_below (RU HO_8.out) hb)
          replace HO_528000 := Aside0.mk (Kd.R_below (RU HO_528000.out) hb)
          replace HO_528001 := Aside0.mk (Kd.R_below (RU HO_528001.out) hb)
          replace BK517 := Aside0.mk (blk_below (g := gb517) (o := .cells #[.slice A1_0 l1_0.length c1_0, .slice A1_1 l1_1.length c1_1] 26 (0, 0)) (kU BK517.out) hb)
          replace BK518 := Aside0.mk (blk_below (g := gb518) (o := .cells #[.slice A2_0 l2_0.length c2_0, .slice A2_1 l2_1.length c2_1] 26 (0, 0)) (kU BK518.out) hb)
          replace BK519 := Aside0.mk (blk_below (g := gb519) (o := .cells #[.slice none 0 0, .slice none 0 0] 26 (0, 0)) (kU BK519.out) hb)
          replace BK527 := Aside0.mk (blk_below (g := gb527) (o := .cells #[.slice Ao43 t523.length co43, u528001] 26 (0, 0)) (kU BK527.out) hb)
          replace HB := Aside0.mk (below_step (bS4 HB.out GE517.out GE518.out GE519.out GE527.out) hb)
          (try clear hb)
          (try clear hb2)
          (try clear hk)
          (try clear hi)
          refine hK.out _ _ ⟨(blk_cell BK517.out 0).trans rfl, (blk_cell BK517.out 1).trans rfl, (blk_cell BK518.out 0).trans rfl, (blk_cell BK518.out 1).trans rfl⟩ (fun hHeld => ?_)
          clear hK K
          refine norm_ (a' := ?_) ?_ ?_
          rotate_left
          ·
           show Act.put _ (some 50) _ = _
           simp only [Act.put, List.setIfInBounds_toArray, List.set_cons_zero, List.set_cons_succ, i64_w, i32_w]
           rfl
          refine one_ (i := 6) (N := some 53) #[true, true, true, true, true, true, true, false, false, false, false, false, false] rfl rfl (one_of HT_.out (by kernel_rfl)) (by decide) (fun K hK => ?_)
          refine goes_ Try.func76 (by kernel_rfl) rfl #[.agg #[.slice A2_0 l2_0.length c2_0, .slice A2_1 l2_1.length c2_1], .int .i64 x11_2] (by rfl) rfl rfl lU ?_
          with_reducible refine (spec_l4Of.calls _ _ l2_0 _ _ l2_1 x11_2 t530 _ ?side1 ?side2 ?side3 ?side4 A52.out).mono ?_
          (case side1 => exact cU (Kd.C_below HR2_0.out HB.out))
          (case side2 => exact HC2_0.out)
          (case side3 => exact cU (Kd.C_below HR2_1.out HB.out))
          (case side4 => exact HC2_1.out)
          rintro e w58 ⟨rfl, hb⟩
          refine ⟨_, rfl, ?_⟩
          replace HO_8 := Aside0.mk (Kd.R_below (RU HO_8.out) hb)
          replace HO_528000 := Aside0.mk (Kd.R_below (RU HO_528000.out) hb)
          replace HO_528001 := Aside0.mk (Kd.R_below (RU HO_528001.out) hb)
          replace BK517 := Aside0.mk (blk_below (g := gb517) (o := .cells #[.slice A1_0 l1_0.length c1_0, .slice A1_1 l1_1.length c1_1] 26 (0, 0)) (kU BK517.out) hb)
          replace BK518 := Aside0.mk (blk_below (g := gb518) (o := .cells #[.slice A2_0 l2_0.length c2_0, .slice A2_1 l2_1.length c2_1] 26 (0, 0)) (kU BK518.out) hb)
          replace BK519 := Aside0.mk (blk_below (g := gb519) (o := .cells #[.slice none 0 0, .slice none 0 0] 26 (0, 0)) (kU BK519.out) hb)
          replace BK527 := Aside0.mk (blk_below (g := gb527) (o := .cells #[.slice Ao43 t523.length co43, u528001] 26 (0, 0)) (kU BK527.out) hb)
          replace HB := Aside0.mk (below_step (bS4 HB.out GE517.out GE518.out GE519.out GE527.out) hb)
          (try clear hb)
          (try clear hb2)
          (try clear hk)
          (try clear hi)
          refine hK.out _ _ ⟨(blk_cell BK517.out 0).trans rfl, (blk_cell BK517.out 1).trans rfl, (blk_cell BK518.out 0).trans rfl, (blk_cell BK518.out 1).trans rfl⟩ (fun hHeld => ?_)
          clear hK K
          refine norm_ (a' := ?_) ?_ ?_
          rotate_left
          ·
           show Act.put _ (some 53) _ = _
           simp only [Act.put, List.setIfInBounds_toArray, List.set_cons_zero, List.set_cons_succ, i64_w, i32_w]
           rfl
          refine one_ (i := 7) (N := some 54) #[true, true, true, true, true, true, true, true, false, false, false, false, false] rfl rfl (one_of HT_.out (by kernel_rfl)) (by decide) (fun K hK => ?_)
          refine goes_ Try.func68 (by kernel_rfl) rfl #[.int .i64 a0, .int .i64 t529, .int .i64 t530] (by rfl) rfl rfl lU ?_
          with_reducible refine (spec_Two.calls k2 a0 t529 t530 t531 t532 _ A53.out).mono ?_
          rintro e w' ⟨rfl, ⟨nd, rfl⟩⟩
          refine ⟨_, rfl, ?_⟩
          refine hK.out _ _ ⟨(blk_cell BK517.out 0).trans rfl, (blk_cell BK517.out 1).trans rfl, (blk_cell BK518.out 0).trans rfl, (blk_cell BK518.out 1).trans rfl⟩ (fun hHeld => ?_)
          clear hK K
          refine norm_ (a' := ?_) ?_ ?_
          rotate_left
          ·
           show Act.put _ (some 54) _ = _
           simp only [Act.put, List.setIfInBounds_toArray, List.set_cons_zero, List.set_cons_succ, i64_w, i32_w]
           rfl
          refine pure_ (i := 8) (N := some 46) (v := ?_) (a' := ?_) #[true, true, true, true, true, true, true, true, true, false, false, false, false] rfl rfl (any_of HT_.out (by kernel_rfl)) (fun _ _ _ h => h) (Or.inl ⟨by rfl, ?_⟩) ?_ ?_
          rotate_left
          ·
           intro w'
           go_simp
           with_reducible rfl
          rotate_left
          ·
           simp only [Act.put, List.setIfInBounds_toArray, List.set_cons_zero, List.set_cons_succ, i64_w, i32_w]
           rfl
          refine pure_ (i := 9) (N := some 55) (v := ?_) (a' := ?_) #[true, true, true, true, true, true, true, true, true, true, false, false, false] rfl rfl (any_of HT_.out (by kernel_rfl)) (fun _ _ _ h => h) (Or.inl ⟨by rfl, ?_⟩) ?_ ?_
          rotate_left
          ·
           intro w'
           go_simp
           with_reducible rfl
          rotate_left
          ·
           simp only [Act.put, List.setIfInBounds_toArray, List.set_cons_zero, List.set_cons_succ, i64_w, i32_w]
           rfl
          refine pure_ (i := 10) (N := some 56) (v := ?_) (a' := ?_) #[true, true, true, true, true, true, true, true, true, true, true, false, false] rfl rfl (any_of HT_.out (by kernel_rfl)) (fun _ _ _ h => h) (Or.inl ⟨by rfl, ?_⟩) ?_ ?_
          rotate_left
          ·
           intro w'
           go_simp
           with_reducible rfl
          rotate_left
          ·
           simp only [Act.put, List.setIfInBounds_toArray, List.set_cons_zero, List.set_cons_succ, i64_w, i32_w]
           rfl
          refine pure_ (i := 11) (N := some 12) (v := ?_) (a' := ?_) #[true, true, true, true, true, true, true, true, true, true, true, true, false] rfl rfl (any_of HT_.out (by kernel_rfl)) (fun _ _ _ h => h) (Or.inl ⟨by rfl, ?_⟩) ?_ ?_
          rotate_left
          ·
           intro w'
           go_simp
           with_reducible rfl
          rotate_left
          ·
           simp only [Act.put, List.setIfInBounds_toArray, List.set_cons_zero, List.set_cons_succ, i64_w, i32_w]
           rfl
          refine pure_ (i := 12) (N := some 13) (v := ?_) (a' := ?_) #[true, true, true, true, true, true, true, true, true, true, true, true, true] rfl rfl (any_of HT_.out (by kernel_rfl)) (fun _ _ _ h => h) (Or.inl ⟨by rfl, ?_⟩) ?_ ?_
          rotate_left
          ·
           intro w'
           go_simp
           with_reducible rfl
          rotate_left
          ·
           simp only [Act.put, List.setIfInBounds_toArray, List.set_cons_zero, List.set_cons_succ, i64_w, i32_w]
           rfl
          refine done_ (done_of HT_.out (by kernel_rfl)) ?_
          have hnb59 := NB527_517.out
          have hnc59 := NB517_527.out
          have hnb60 := NB527_518.out
          have hnc60 := NB518_527.out
          have hnb61 := NB527_519.out
          have hnc61 := NB519_527.out
          have hcz62_0 : w58.cell? ⟨gb527, 0, none⟩ = some (.slice Ao43 t523.length co43) := (blk_cell BK527.out 0).trans rfl
          have hcz62_1 : w58.cell? ⟨gb527, 1, none⟩ = some (u528001) := (blk_cell BK527.out 1).trans rfl
          have hfz62_0 := blk_frozen BK527.out 0
          have hfz62_1 := blk_frozen BK527.out 1
          try go_wp2_with (first | ((with_reducible refine gate_builtin (b := .append) (xs := #[.tmp 62, .tmp 64]) rfl ?_); at_builtin; refine Kd.R_append (Kd.int .i64) (w0 := w) w.heap.size rfl (.tmp 62) (.tmp 64) 24 3 (.int .i64 0) 8 rfl Try.underlying24 info3 rfl (by decide) (by omega) u528001 x528001_2 t531 [.int .i64 t531] (fun k_ => some k_ ≠ (.slice Ao43 t523.length co43 : Value).ownBlock ∧ some k_ ≠ (.slice Ao43 t523.length co43 : Value).ownBlock) (fun _ => False) rfl rfl ?aP (fun _ hk => hk.elim) ?aF ?aO ?aB ?aS ?aL ?_; (case aP => exact rfl); (case aB => exact (bS4 HB.out GE517.out GE518.out GE519.out GE527.out)); (case aF => exact (fun k_ hk => ⟨Kd.fresh' (Kd.R_lt (RU HO_8.out)) k_ hk, Kd.fresh' (Kd.R_lt (RU HO_528000.out)) k_ hk⟩)); (case aO => exact (RU HO_528001.out)); (case aS => exact (below_size (bS4 HB.out GE517.out GE518.out GE519.out GE527.out))); (case aL => have := LMc55.out; omega); intro v534 w63 ho hb hg hat; rw [← Ny533.out] at ho; have n0_ := Aside0.mk (Kd.R_after (ok := (fun _ => True)) (by refine RU ?_; exact Kd.R_mono HO_8.out (fun _ hk => ⟨trivial, hk⟩)) hg hat); have n1_ := Aside0.mk (Kd.R_after (ok := (fun _ => True)) (by refine RU ?_; exact Kd.R_mono HO_528000.out (fun _ hk => ⟨trivial, hk⟩)) hg hat); have n2_ := Aside0.mk (blk_grown (g := gb517) (o := .cells #[.slice A1_0 l1_0.length c1_0, .slice A1_1 l1_1.length c1_1] 26 (0, 0)) (kU BK517.out) hg (Kd.R_ne HO_528001.out BK517.out (by decide))); have n3_ := Aside0.mk (blk_grown (g := gb518) (o := .cells #[.slice A2_0 l2_0.length c2_0, .slice A2_1 l2_1.length c2_1] 26 (0, 0)) (kU BK518.out) hg (Kd.R_ne HO_528001.out BK518.out (by decide))); have n4_ := Aside0.mk (blk_grown (g := gb519) (o := .cells #[.slice none 0 0, .slice none 0 0] 26 (0, 0)) (kU BK519.out) hg (Kd.R_ne HO_528001.out BK519.out (by decide))); have n5_ := Aside0.mk (blk_grown (g := gb527) (o := .cells #[.slice Ao43 t523.length co43, u528001] 26 (0, 0)) (kU BK527.out) hg (Kd.R_ne HO_528001.out BK527.out (by decide))); have n6_ := Aside0.mk (hb); have n7_ := Aside0.mk (ho); clear HO_8; clear HO_528000; clear BK517; clear BK518; clear BK519; clear BK527; clear HB; clear HO_528001; have HO_8 := n0_; have HO_528000 := n1_; have BK517 := n2_; have BK518 := n3_; have BK519 := n4_; have BK527 := n5_; have HB := n6_; have HO535 := n7_; clear n0_ n1_ n2_ n3_ n4_ n5_ n6_ n7_; clear ho hb hg hat; obtain ⟨Ao64, co64, eo64⟩ := Kd.R_slice HO535.out; subst eo64; have hcz65_0 : w63.cell? ⟨gb527, 0, none⟩ = some (.slice Ao43 t523.length co43) := (blk_cell BK527.out 0).trans rfl; have hcz65_1 : w63.cell? ⟨gb527, 1, none⟩ = some (u528001) := (blk_cell BK527.out 1).trans rfl; have hfz65_0 := blk_frozen BK527.out 0; have hfz65_1 := blk_frozen BK527.out 1))
          go_roundg k2
          case measure => have := HJ3.out; have := HK2.out; omega
          case rel => exact ⟨(wrap64 (x11_2 + 1)), (y533), (.slice Ao64 y533.length co64), (by first | rfl | (simp; done) | (simp [*]; done)), H', ⟨by have := HJ3.out; have := HK2.out; omega⟩, ⟨by refine RU ?_; exact Kd.R_mono (Kd.R_far (p := ⟨gb527, 1, none⟩) (Kd.R_types HO_8.out BK527.out (by decide)) (fun _ hk => hk.2) (.slice Ao64 y533.length co64)) (fun _ hk => hk.1.2)⟩, ⟨by refine RU ?_; exact Kd.R_mono (Kd.R_far (p := ⟨gb527, 1, none⟩) (Kd.R_types HO_528000.out BK527.out (by decide)) (fun _ hk => hk.2) (.slice Ao64 y533.length co64)) (fun _ hk => hk.1.2)⟩, ⟨by refine RU ?_; exact Kd.R_mono (Kd.R_far (p := ⟨gb527, 1, none⟩) (Kd.R_types HO535.out BK527.out (by decide)) (fun _ hk => hk.2) (.slice Ao64 y533.length co64)) (fun _ hk => ⟨hk.1.1, hk.1.2⟩)⟩, ⟨by refine kU ?_; refine blk_far ?_ NB517_527.out _; refine kU ?_; exact BK517.out⟩, ⟨by refine kU ?_; refine blk_far ?_ NB518_527.out _; refine kU ?_; exact BK518.out⟩, ⟨by refine kU ?_; refine blk_far ?_ NB519_527.out _; refine kU ?_; exact BK519.out⟩, ⟨by refine kU ?_; refine blk_put (cs := #[.slice Ao43 t523.length co43, u528001]) ?_ 1 _ rfl; refine kU ?_; exact BK527.out⟩, ⟨by exact bS4 HB.out GE517.out GE518.out GE519.out GE527.out⟩⟩
         ·
          rw [if_neg c55] at H
          exact absurd H (by simp)
        ·
         rw [if_neg c54] at H
         have c54b0 : (t532 == 0) = false := beq_eq_false_iff_ne.mpr c54
         have c54b1 : (t532 != 0) = true := bne_iff_ne.mpr c54
         simp only [Option.some.injEq, Prod.mk.injEq] at H
         obtain ⟨rfl, rfl, rfl⟩ := H
         try go_wp2_with (first | ((with_reducible refine gate_callee (f := 45) rfl ?_); refine goesL_ (some 42) rfl rfl Try.func45 (by kernel_rfl) rfl #[.slice Ao43 t523.length co43] rfl lU ?_; (with_reducible refine (spec_SizeOf.calls k2 _ _ t523 t528 _ ?side1 ?side2 A49.out).mono ?_); (case side1 => exact cU (Kd.R_reads' HO_8.out).2.2); (case side2 => exact (Kd.R_reads' HO_8.out).2.1); rintro e w' ⟨rfl, ⟨nd, rfl⟩⟩; refine ⟨_, rfl, ?_⟩; (try (rw [drewN_self wr]; generalize hq_ : World.drewN wr _ = wr; have n0_ : Aside0 (Kd.R (Kd.int .i64) 3 wr w.heap.size (fun k_ => some k_ ≠ (u528001 : Value).ownBlock) (.slice Ao43 t523.length co43) t523) := ⟨by rw [← hq_]; exact (RU HO_528000.out)⟩; have n1_ : Aside0 (Kd.R (Kd.int .i64) 3 wr w.heap.size (fun k_ => some k_ ≠ (.slice Ao43 t523.length co43 : Value).ownBlock ∧ some k_ ≠ (.slice Ao43 t523.length co43 : Value).ownBlock) u528001 x528001_2) := ⟨by rw [← hq_]; exact (by refine RU ?_; exact Kd.R_mono HO_528001.out (fun _ hk => ⟨hk.2, hk.1⟩))⟩; have n2_ : Aside0 (Kd.R (Kd.int .i64) 3 wr w.heap.size (fun k_ => some k_ ≠ (u528001 : Value).ownBlock) (.slice Ao43 t523.length co43) t523) := ⟨by rw [← hq_]; exact (RU HO_8.out)⟩; have n3_ : Aside0 (wr.heap[gb517]? = some (.cells #[.slice A1_0 l1_0.length c1_0, .slice A1_1 l1_1.length c1_1] 26 (0, 0))) := ⟨by rw [← hq_]; exact (kU BK517.out)⟩; have n4_ : Aside0 (wr.heap[gb518]? = some (.cells #[.slice A2_0 l2_0.length c2_0, .slice A2_1 l2_1.length c2_1] 26 (0, 0))) := ⟨by rw [← hq_]; exact (kU BK518.out)⟩; have n5_ : Aside0 (wr.heap[gb519]? = some (.cells #[.slice none 0 0, .slice none 0 0] 26 (0, 0))) := ⟨by rw [← hq_]; exact (kU BK519.out)⟩; have n6_ : Aside0 (wr.heap[gb527]? = some (.cells #[.slice Ao43 t523.length co43, u528001] 26 (0, 0))) := ⟨by rw [← hq_]; exact (kU BK527.out)⟩; have n7_ : Aside0 (Below w.heap.size w wr) := ⟨by rw [← hq_]; exact (bS4 HB.out GE517.out GE518.out GE519.out GE527.out)⟩; clear HO_528000 HO_528001 HO_8 BK517 BK518 BK519 BK527 HB hq_; have HO_528000 := n0_; have HO_528001 := n1_; have HO_8 := n2_; have BK517 := n3_; have BK518 := n4_; have BK519 := n5_; have BK527 := n6_; have HB := n7_; clear n0_ n1_ n2_ n3_ n4_ n5_ n6_ n7_))))
         replace HO_8 := Aside0.mk (Kd.R_drew HO_8.out)
         replace HO_528000 := Aside0.mk (Kd.R_drew HO_528000.out)
         replace HO_528001 := Aside0.mk (Kd.R_drew HO_528001.out)
         replace BK517 := Aside0.mk (blk_drew BK517.out)
         replace BK518 := Aside0.mk (blk_drew BK518.out)
         replace BK519 := Aside0.mk (blk_drew BK519.out)
         replace BK527 := Aside0.mk (blk_drew BK527.out)
         replace HB := Aside0.mk (below_drew1 HB.out)
         refine start_ (n := 13) (S := fun w' => w'.cell? ⟨gb517, 0, none⟩ = some (.slice A1_0 l1_0.length c1_0) ∧ w'.cell? ⟨gb517, 1, none⟩ = some (.slice A1_1 l1_1.length c1_1) ∧ w'.cell? ⟨gb518, 0, none⟩ = some (.slice A2_0 l2_0.length c2_0) ∧ w'.cell? ⟨gb518, 1, none⟩ = some (.slice A2_1 l2_1.length c2_1)) (ds := []) #[false, false, false, false, false, false, false, false, false, false, false, false, false] (by kernel_rfl) rfl rfl ⟨(blk_cell BK517.out 0).trans rfl, (blk_cell BK517.out 1).trans rfl, (blk_cell BK518.out 0).trans rfl, (blk_cell BK518.out 1).trans rfl⟩ (fun hHeld => ?_); refine with_tabW spec_EachTwo.tab10 spec_EachTwo.bits10 (fun HT_ HW_ => ?_)
         generalize wr.drew = w66 at HO_8 HO_528000 HO_528001 BK517 BK518 BK519 BK527 HB hHeld ⊢
         refine pure_ (i := 0) (N := some 47) (v := ?_) (a' := ?_) #[true, false, false, false, false, false, false, false, false, false, false, false, false] rfl rfl (any_of HT_.out (by kernel_rfl)) (fun _ _ _ h => h) (Or.inl ⟨by rfl, ?_⟩) ?_ ?_
         rotate_left
         ·
          intro w'
          go_simp
          with_reducible rfl
         rotate_left
         ·
          simp only [Act.put, List.setIfInBounds_toArray, List.set_cons_zero, List.set_cons_succ, i64_w, i32_w]
          rfl
         refine pure_ (i := 2) (N := some 49) (v := ?_) (a' := ?_) #[true, false, true, false, false, false, false, false, false, false, false, false, false] rfl rfl (any_of HT_.out (by kernel_rfl)) (fun _ _ _ h => h) (Or.inl ⟨by rfl, ?_⟩) ?_ ?_
         rotate_left
         ·
          intro w'
          go_simp
          with_reducible rfl
         rotate_left
         ·
          simp only [Act.put, List.setIfInBounds_toArray, List.set_cons_zero, List.set_cons_succ, i64_w, i32_w]
          rfl
         refine pure_ (i := 5) (N := some 52) (v := ?_) (a' := ?_) #[true, false, true, false, false, true, false, false, false, false, false, false, false] rfl rfl (any_of HT_.out (by kernel_rfl)) (fun _ _ _ h => h) (Or.inl ⟨by rfl, ?_⟩) ?_ ?_
         rotate_left
         ·
          intro w'
          go_simp
          with_reducible rfl
         rotate_left
         ·
          simp only [Act.put, List.setIfInBounds_toArray, List.set_cons_zero, List.set_cons_succ, i64_w, i32_w]
          rfl
         refine take_ (i := 1) (N := some 48) (v := ?_) (a' := ?_) #[true, true, true, false, false, true, false, false, false, false, false, false, false] rfl rfl (take_ofW HT_.out HW_.out (by kernel_rfl)) (fun _ _ _ h => h) (Or.inl ⟨by rfl, ?_⟩) hHeld ?_ ?_
         rotate_left
         ·
          rintro w' ⟨s0, s1, s2, s3⟩
          go_simp
          with_reducible rfl
         rotate_left
         ·
          simp only [Act.put, List.setIfInBounds_toArray, List.set_cons_zero, List.set_cons_succ, i64_w, i32_w]
          rfl
         refine take_ (i := 4) (N := some 51) (v := ?_) (a' := ?_) #[true, true, true, false, true, true, false, false, false, false, false, false, false] rfl rfl (take_ofW HT_.out HW_.out (by kernel_rfl)) (fun _ _ _ h => h) (Or.inl ⟨by rfl, ?_⟩) hHeld ?_ ?_
         rotate_left
         ·
          rintro w' ⟨s0, s1, s2, s3⟩
          go_simp
          with_reducible rfl
         rotate_left
         ·
          simp only [Act.put, List.setIfInBounds_toArray, List.set_cons_zero, List.set_cons_succ, i64_w, i32_w]
          rfl
         refine one_ (i := 3) (N := some 50) #[true, true, true, true, true, true, false, false, false, false, false, false, false] rfl rfl (one_of HT_.out (by kernel_rfl)) (by decide) (fun K hK => ?_)
         refine goes_ Try.func76 (by kernel_rfl) rfl #[.agg #[.slice A1_0 l1_0.length c1_0, .slice A1_1 l1_1.length c1_1], .int .i64 x11_2] (by rfl) rfl rfl lU ?_
         with_reducible refine (spec_l4Of.calls _ _ l1_0 _ _ l1_1 x11_2 t529 _ ?side1 ?side2 ?side3 ?side4 A51.out).mono ?_
         (case side1 => exact cU (Kd.C_below HR1_0.out HB.out))
         (case side2 => exact HC1_0.out)
         (case side3 => exact cU (Kd.C_below HR1_1.out HB.out))
         (case side4 => exact HC1_1.out)
         rintro e w67 ⟨rfl, hb⟩
         refine ⟨_, rfl, ?_⟩
         replace HO_8 := Aside0.mk (Kd.R_below (RU HO_8.out) hb)
         replace HO_528000 := Aside0.mk (Kd.R_below (RU HO_528000.out) hb)
         replace HO_528001 := Aside0.mk (Kd.R_below (RU HO_528001.out) hb)
         replace BK517 := Aside0.mk (blk_below (g := gb517) (o := .cells #[.slice A1_0 l1_0.length c1_0, .slice A1_1 l1_1.length c1_1] 26 (0, 0)) (kU BK517.out) hb)
         replace BK518 := Aside0.mk (blk_below (g := gb518) (o := .cells #[.slice A2_0 l2_0.length c2_0, .slice A2_1 l2_1.length c2_1] 26 (0, 0)) (kU BK518.out) hb)
         replace BK519 := Aside0.mk (blk_below (g := gb519) (o := .cells #[.slice none 0 0, .slice none 0 0] 26 (0, 0)) (kU BK519.out) hb)
         replace BK527 := Aside0.mk (blk_below (g := gb527) (o := .cells #[.slice Ao43 t523.length co43, u528001] 26 (0, 0)) (kU BK527.out) hb)
         replace HB := Aside0.mk (below_step (bS4 HB.out GE517.out GE518.out GE519.out GE527.out) hb)
         (try clear hb)
         (try clear hb2)
         (try clear hk)
         (try clear hi)
         refine hK.out _ _ ⟨(blk_cell BK517.out 0).trans rfl, (blk_cell BK517.out 1).trans rfl, (blk_cell BK518.out 0).trans rfl, (blk_cell BK518.out 1).trans rfl⟩ (fun hHeld => ?_)
         clear hK K
         refine norm_ (a' := ?_) ?_ ?_
         rotate_left
         ·
          show Act.put _ (some 50) _ = _
          simp only [Act.put, List.setIfInBounds_toArray, List.set_cons_zero, List.set_cons_succ, i64_w, i32_w]
          rfl
         refine one_ (i := 6) (N := some 53) #[true, true, true, true, true, true, true, false, false, false, false, false, false] rfl rfl (one_of HT_.out (by kernel_rfl)) (by decide) (fun K hK => ?_)
         refine goes_ Try.func76 (by kernel_rfl) rfl #[.agg #[.slice A2_0 l2_0.length c2_0, .slice A2_1 l2_1.length c2_1], .int .i64 x11_2] (by rfl) rfl rfl lU ?_
         with_reducible refine (spec_l4Of.calls _ _ l2_0 _ _ l2_1 x11_2 t530 _ ?side1 ?side2 ?side3 ?side4 A52.out).mono ?_
         (case side1 => exact cU (Kd.C_below HR2_0.out HB.out))
         (case side2 => exact HC2_0.out)
         (case side3 => exact cU (Kd.C_below HR2_1.out HB.out))
         (case side4 => exact HC2_1.out)
         rintro e w68 ⟨rfl, hb⟩
         refine ⟨_, rfl, ?_⟩
         replace HO_8 := Aside0.mk (Kd.R_below (RU HO_8.out) hb)
         replace HO_528000 := Aside0.mk (Kd.R_below (RU HO_528000.out) hb)
         replace HO_528001 := Aside0.mk (Kd.R_below (RU HO_528001.out) hb)
         replace BK517 := Aside0.mk (blk_below (g := gb517) (o := .cells #[.slice A1_0 l1_0.length c1_0, .slice A1_1 l1_1.length c1_1] 26 (0, 0)) (kU BK517.out) hb)
         replace BK518 := Aside0.mk (blk_below (g := gb518) (o := .cells #[.slice A2_0 l2_0.length c2_0, .slice A2_1 l2_1.length c2_1] 26 (0, 0)) (kU BK518.out) hb)
         replace BK519 := Aside0.mk (blk_below (g := gb519) (o := .cells #[.slice none 0 0, .slice none 0 0] 26 (0, 0)) (kU BK519.out) hb)
         replace BK527 := Aside0.mk (blk_below (g := gb527) (o := .cells #[.slice Ao43 t523.length co43, u528001] 26 (0, 0)) (kU BK527.out) hb)
         replace HB := Aside0.mk (below_step (bS4 HB.out GE517.out GE518.out GE519.out GE527.out) hb)
         (try clear hb)
         (try clear hb2)
         (try clear hk)
         (try clear hi)
         refine hK.out _ _ ⟨(blk_cell BK517.out 0).trans rfl, (blk_cell BK517.out 1).trans rfl, (blk_cell BK518.out 0).trans rfl, (blk_cell BK518.out 1).trans rfl⟩ (fun hHeld => ?_)
         clear hK K
         refine norm_ (a' := ?_) ?_ ?_
         rotate_left
         ·
          show Act.put _ (some 53) _ = _
          simp only [Act.put, List.setIfInBounds_toArray, List.set_cons_zero, List.set_cons_succ, i64_w, i32_w]
          rfl
         refine one_ (i := 7) (N := some 54) #[true, true, true, true, true, true, true, true, false, false, false, false, false] rfl rfl (one_of HT_.out (by kernel_rfl)) (by decide) (fun K hK => ?_)
         refine goes_ Try.func68 (by kernel_rfl) rfl #[.int .i64 a0, .int .i64 t529, .int .i64 t530] (by rfl) rfl rfl lU ?_
         with_reducible refine (spec_Two.calls k2 a0 t529 t530 t531 t532 _ A53.out).mono ?_
         rintro e w' ⟨rfl, ⟨nd, rfl⟩⟩
         refine ⟨_, rfl, ?_⟩
         refine hK.out _ _ ⟨(blk_cell BK517.out 0).trans rfl, (blk_cell BK517.out 1).trans rfl, (blk_cell BK518.out 0).trans rfl, (blk_cell BK518.out 1).trans rfl⟩ (fun hHeld => ?_)
         clear hK K
         refine norm_ (a' := ?_) ?_ ?_
         rotate_left
         ·
          show Act.put _ (some 54) _ = _
          simp only [Act.put, List.setIfInBounds_toArray, List.set_cons_zero, List.set_cons_succ, i64_w, i32_w]
          rfl
         refine pure_ (i := 8) (N := some 46) (v := ?_) (a' := ?_) #[true, true, true, true, true, true, true, true, true, false, false, false, false] rfl rfl (any_of HT_.out (by kernel_rfl)) (fun _ _ _ h => h) (Or.inl ⟨by rfl, ?_⟩) ?_ ?_
         rotate_left
         ·
          intro w'
          go_simp
          with_reducible rfl
         rotate_left
         ·
          simp only [Act.put, List.setIfInBounds_toArray, List.set_cons_zero, List.set_cons_succ, i64_w, i32_w]
          rfl
         refine pure_ (i := 9) (N := some 55) (v := ?_) (a' := ?_) #[true, true, true, true, true, true, true, true, true, true, false, false, false] rfl rfl (any_of HT_.out (by kernel_rfl)) (fun _ _ _ h => h) (Or.inl ⟨by rfl, ?_⟩) ?_ ?_
         rotate_left
         ·
          intro w'
          go_simp
          with_reducible rfl
         rotate_left
         ·
          simp only [Act.put, List.setIfInBounds_toArray, List.set_cons_zero, List.set_cons_succ, i64_w, i32_w]
          rfl
         refine pure_ (i := 10) (N := some 56) (v := ?_) (a' := ?_) #[true, true, true, true, true, true, true, true, true, true, true, false, false] rfl rfl (any_of HT_.out (by kernel_rfl)) (fun _ _ _ h => h) (Or.inl ⟨by rfl, ?_⟩) ?_ ?_
         rotate_left
         ·
          intro w'
          go_simp
          with_reducible rfl
         rotate_left
         ·
          simp only [Act.put, List.setIfInBounds_toArray, List.set_cons_zero, List.set_cons_succ, i64_w, i32_w]
          rfl
         refine pure_ (i := 11) (N := some 12) (v := ?_) (a' := ?_) #[true, true, true, true, true, true, true, true, true, true, true, true, false] rfl rfl (any_of HT_.out (by kernel_rfl)) (fun _ _ _ h => h) (Or.inl ⟨by rfl, ?_⟩) ?_ ?_
         rotate_left
         ·
          intro w'
          go_simp
          with_reducible rfl
         rotate_left
         ·
          simp only [Act.put, List.setIfInBounds_toArray, List.set_cons_zero, List.set_cons_succ, i64_w, i32_w]
          rfl
         refine pure_ (i := 12) (N := some 13) (v := ?_) (a' := ?_) #[true, true, true, true, true, true, true, true, true, true, true, true, true] rfl rfl (any_of HT_.out (by kernel_rfl)) (fun _ _ _ h => h) (Or.inl ⟨by rfl, ?_⟩) ?_ ?_
         rotate_left
         ·
          intro w'
          go_simp
          with_reducible rfl
         rotate_left
         ·
          simp only [Act.put, List.setIfInBounds_toArray, List.set_cons_zero, List.set_cons_succ, i64_w, i32_w]
          rfl
         refine done_ (done_of HT_.out (by kernel_rfl)) ?_
         have hnb69 := NB519_517.out
         have hnc69 := NB517_519.out
         have hnb70 := NB519_518.out
         have hnc70 := NB518_519.out
         have hnb71 := NB519_527.out
         have hnc71 := NB527_519.out
         have hcz72_0 : w68.cell? ⟨gb519, 0, none⟩ = some (.slice none 0 0) := (blk_cell BK519.out 0).trans rfl
         have hcz72_1 : w68.cell? ⟨gb519, 1, none⟩ = some (.slice none 0 0) := (blk_cell BK519.out 1).trans rfl
         have hfz72_0 := blk_frozen BK519.out 0
         have hfz72_1 := blk_frozen BK519.out 1
         try go_wp2
         refine bodyPost_ret (results_ct rfl _ _ gb519 26 #[.slice none 0 0, .slice none 0 0] (0, 0) _ rfl (by refine kU ?_; refine blk_put (cs := #[.slice none 0 0, .slice none 0 0]) ?_ 1 _ rfl; refine kU ?_; refine blk_put (cs := #[.slice none 0 0, .slice none 0 0]) ?_ 0 _ rfl; refine kU ?_; exact BK519.out) Try.underlying26 rfl (by kernel_rfl)) rfl ?_
         exact ⟨_, _, by first | rfl | (simp [errW_none, errW_some] <;> rfl) | (simp [*, errW_none, errW_some] <;> rfl), by first | exact Kd.R_nil _ _ _ _ _ | exact Kd.N_nil _ _ _ _ _ | exact Kd.V_nil _ _ _ _ _ | exact Kd.Q_nil _ _ _ _ _ | exact Kd.S_nil _ _ _ _ _, by first | exact Kd.R_nil _ _ _ _ _ | exact Kd.N_nil _ _ _ _ _ | exact Kd.V_nil _ _ _ _ _ | exact Kd.Q_nil _ _ _ _ _ | exact Kd.S_nil _ _ _ _ _, by exact bS4 HB.out GE517.out GE518.out GE519.out GE527.out⟩
       ·
        rw [if_neg c50] at H
        have c50b0 : decide (x11_2 < t528) = false := decide_eq_false c50
        clear c50
        simp only [Option.some.injEq, Prod.mk.injEq] at H
        obtain ⟨rfl, rfl, rfl⟩ := H
        go_wp2_with (first | ((with_reducible refine gate_callee (f := 45) rfl ?_); refine goesL_ (some 42) rfl rfl Try.func45 (by kernel_rfl) rfl #[.slice Ao43 t523.length co43] rfl lU ?_; (with_reducible refine (spec_SizeOf.calls k2 _ _ t523 t528 _ ?side1 ?side2 A49.out).mono ?_); (case side1 => exact cU (Kd.R_reads' HO_8.out).2.2); (case side2 => exact (Kd.R_reads' HO_8.out).2.1); rintro e w' ⟨rfl, ⟨nd, rfl⟩⟩; refine ⟨_, rfl, ?_⟩; (try (rw [drewN_self wr]; generalize hq_ : World.drewN wr _ = wr; have n0_ : Aside0 (Kd.R (Kd.int .i64) 3 wr w.heap.size (fun k_ => some k_ ≠ (u528001 : Value).ownBlock) (.slice Ao43 t523.length co43) t523) := ⟨by rw [← hq_]; exact (RU HO_528000.out)⟩; have n1_ : Aside0 (Kd.R (Kd.int .i64) 3 wr w.heap.size (fun k_ => some k_ ≠ (.slice Ao43 t523.length co43 : Value).ownBlock ∧ some k_ ≠ (.slice Ao43 t523.length co43 : Value).ownBlock) u528001 x528001_2) := ⟨by rw [← hq_]; exact (by refine RU ?_; exact Kd.R_mono HO_528001.out (fun _ hk => ⟨hk.2, hk.1⟩))⟩; have n2_ : Aside0 (Kd.R (Kd.int .i64) 3 wr w.heap.size (fun k_ => some k_ ≠ (u528001 : Value).ownBlock) (.slice Ao43 t523.length co43) t523) := ⟨by rw [← hq_]; exact (RU HO_8.out)⟩; have n3_ : Aside0 (wr.heap[gb517]? = some (.cells #[.slice A1_0 l1_0.length c1_0, .slice A1_1 l1_1.length c1_1] 26 (0, 0))) := ⟨by rw [← hq_]; exact (kU BK517.out)⟩; have n4_ : Aside0 (wr.heap[gb518]? = some (.cells #[.slice A2_0 l2_0.length c2_0, .slice A2_1 l2_1.length c2_1] 26 (0, 0))) := ⟨by rw [← hq_]; exact (kU BK518.out)⟩; have n5_ : Aside0 (wr.heap[gb519]? = some (.cells #[.slice none 0 0, .slice none 0 0] 26 (0, 0))) := ⟨by rw [← hq_]; exact (kU BK519.out)⟩; have n6_ : Aside0 (wr.heap[gb527]? = some (.cells #[.slice Ao43 t523.length co43, u528001] 26 (0, 0))) := ⟨by rw [← hq_]; exact (kU BK527.out)⟩; have n7_ : Aside0 (Below w.heap.size w wr) := ⟨by rw [← hq_]; exact (bS4 HB.out GE517.out GE518.out GE519.out GE527.out)⟩; clear HO_528000 HO_528001 HO_8 BK517 BK518 BK519 BK527 HB hq_; have HO_528000 := n0_; have HO_528001 := n1_; have HO_8 := n2_; have BK517 := n3_; have BK518 := n4_; have BK519 := n5_; have BK527 := n6_; have HB := n7_; clear n0_ n1_ n2_ n3_ n4_ n5_ n6_ n7_)); have hnb73 := NB527_517.out; have hnc73 := NB517_527.out; have hnb74 := NB527_518.out; have hnc74 := NB518_527.out; have hnb75 := NB527_519.out; have hnc75 := NB519_527.out; have hcz76_0 : wr.cell? ⟨gb527, 0, none⟩ = some (.slice Ao43 t523.length co43) := (blk_cell BK527.out 0).trans rfl; have hcz76_1 : wr.cell? ⟨gb527, 1, none⟩ = some (u528001) := (blk_cell BK527.out 1).trans rfl; have hfz76_0 := blk_frozen BK527.out 0; have hfz76_1 := blk_frozen BK527.out 1; have hnb77 := NB519_517.out; have hnc77 := NB517_519.out; have hnb78 := NB519_518.out; have hnc78 := NB518_519.out; have hcz79_0 : wr.cell? ⟨gb519, 0, none⟩ = some (.slice none 0 0) := (blk_cell BK519.out 0).trans rfl; have hcz79_1 : wr.cell? ⟨gb519, 1, none⟩ = some (.slice none 0 0) := (blk_cell BK519.out 1).trans rfl; have hfz79_0 := blk_frozen BK519.out 0; have hfz79_1 := blk_frozen BK519.out 1; obtain ⟨Ao80, co80, eo80⟩ := Kd.R_slice HO_528001.out; subst eo80))
        refine bodyPost_ret (results_ct rfl _ _ gb519 26 #[.slice Ao43 t523.length co43, .slice Ao80 x528001_2.length co80] (0, 0) _ rfl (by refine kU ?_; refine blk_put (cs := #[.slice Ao43 t523.length co43, .slice none 0 0]) ?_ 1 _ rfl; refine kU ?_; refine blk_put (cs := #[.slice none 0 0, .slice none 0 0]) ?_ 0 _ rfl; refine kU ?_; exact BK519.out) Try.underlying26 rfl (by kernel_rfl)) rfl ?_
        exact ⟨_, _, by first | rfl | (simp [errW_none, errW_some] <;> rfl) | (simp [*, errW_none, errW_some] <;> rfl), by refine RU ?_; exact Kd.R_mono (Kd.R_far (p := ⟨gb519, 1, none⟩) (Kd.R_far (p := ⟨gb519, 0, none⟩) (Kd.R_types HO_528000.out BK519.out (by decide)) (fun _ hk => hk.2) (.slice Ao43 t523.length co43)) (fun _ hk => hk.2) (.slice Ao80 x528001_2.length co80)) (fun _ hk => hk.1), by refine RU ?_; exact Kd.R_mono (Kd.R_far (p := ⟨gb519, 1, none⟩) (Kd.R_far (p := ⟨gb519, 0, none⟩) (Kd.R_types HO_528001.out BK519.out (by decide)) (fun _ hk => hk.2) (.slice Ao43 t523.length co43)) (fun _ hk => hk.2) (.slice Ao80 x528001_2.length co80)) (fun _ hk => hk.1.2), by exact bS4 HB.out GE517.out GE518.out GE519.out GE527.out⟩
    ·
     rw [if_neg c36] at H
     have c36b0 : (t526 == 0) = false := beq_eq_false_iff_ne.mpr c36
     have c36b1 : (t526 != 0) = true := bne_iff_ne.mpr c36
     simp only [Option.some.injEq, Prod.mk.injEq] at H
     obtain ⟨rfl, rfl, rfl⟩ := H
     have hnb81 := NB517_518.out
     have hnc81 := NB518_517.out
     have hnb82 := NB517_519.out
     have hnc82 := NB519_517.out
     have hcz83_0 : wc.cell? ⟨gb517, 0, none⟩ = some (.slice A1_0 l1_0.length c1_0) := (blk_cell BK517.out 0).trans rfl
     have hcz83_1 : wc.cell? ⟨gb517, 1, none⟩ = some (.slice A1_1 l1_1.length c1_1) := (blk_cell BK517.out 1).trans rfl
     have hfz83_0 := blk_frozen BK517.out 0
     have hfz83_1 := blk_frozen BK517.out 1
     have hnb84 := NB518_519.out
     have hnc84 := NB519_518.out
     have hcz85_0 : wc.cell? ⟨gb518, 0, none⟩ = some (.slice A2_0 l2_0.length c2_0) := (blk_cell BK518.out 0).trans rfl
     have hcz85_1 : wc.cell? ⟨gb518, 1, none⟩ = some (.slice A2_1 l2_1.length c2_1) := (blk_cell BK518.out 1).trans rfl
     have hfz85_0 := blk_frozen BK518.out 0
     have hfz85_1 := blk_frozen BK518.out 1
     go_wp2_with (first | ((with_reducible refine gate_callee (f := 38) rfl ?_); refine goesL_ (some 31) rfl rfl Try.func38 (by kernel_rfl) rfl #[.agg #[.slice A1_0 l1_0.length c1_0, .slice A1_1 l1_1.length c1_1], .agg #[.slice A2_0 l2_0.length c2_0, .slice A2_1 l2_1.length c2_1]] rfl lU ?_; (with_reducible refine (spec_Fit.calls kj3 _ _ l1_0 _ _ l1_1 _ _ l2_0 _ _ l2_1 t523 t526 _ ?side1 ?side2 ?side3 ?side4 ?side5 ?side6 ?side7 ?side8 A35.out).mono ?_); (case side1 => exact cU (Kd.C_below HR1_0.out HB.out)); (case side2 => exact HC1_0.out); (case side3 => exact cU (Kd.C_below HR1_1.out HB.out)); (case side4 => exact HC1_1.out); (case side5 => exact cU (Kd.C_below HR2_0.out HB.out)); (case side6 => exact HC2_0.out); (case side7 => exact cU (Kd.C_below HR2_1.out HB.out)); (case side8 => exact HC2_1.out); rintro e w86 ⟨v524, rfl, ho0, hb⟩; refine ⟨_, rfl, ?_⟩; have HO525 := Aside0.mk (Kd.R_lower ho0 (below_size (bS3 HB.out GE517.out GE518.out GE519.out))); replace BK517 := Aside0.mk (blk_below (g := gb517) (o := .cells #[.slice A1_0 l1_0.length c1_0, .slice A1_1 l1_1.length c1_1] 26 (0, 0)) (kU BK517.out) hb); replace BK518 := Aside0.mk (blk_below (g := gb518) (o := .cells #[.slice A2_0 l2_0.length c2_0, .slice A2_1 l2_1.length c2_1] 26 (0, 0)) (kU BK518.out) hb); replace BK519 := Aside0.mk (blk_below (g := gb519) (o := .cells #[.slice none 0 0, .slice none 0 0] 26 (0, 0)) (kU BK519.out) hb); replace HB := Aside0.mk (below_step (bS3 HB.out GE517.out GE518.out GE519.out) hb); (try clear hb); (try clear hb2); (try clear hk); (try clear hi); (try clear ho0); have hcz87_0 : w86.cell? ⟨gb519, 0, none⟩ = some (.slice none 0 0) := (blk_cell BK519.out 0).trans rfl; have hcz87_1 : w86.cell? ⟨gb519, 1, none⟩ = some (.slice none 0 0) := (blk_cell BK519.out 1).trans rfl; have hfz87_0 := blk_frozen BK519.out 0; have hfz87_1 := blk_frozen BK519.out 1))
     refine bodyPost_ret (results_ct rfl _ _ gb519 26 #[.slice none 0 0, .slice none 0 0] (0, 0) _ rfl (by refine kU ?_; refine blk_put (cs := #[.slice none 0 0, .slice none 0 0]) ?_ 1 _ rfl; refine kU ?_; refine blk_put (cs := #[.slice none 0 0, .slice none 0 0]) ?_ 0 _ rfl; refine kU ?_; exact BK519.out) Try.underlying26 rfl (by kernel_rfl)) rfl ?_
     exact ⟨_, _, by first | rfl | (simp [errW_none, errW_some] <;> rfl) | (simp [*, errW_none, errW_some] <;> rfl), by first | exact Kd.R_nil _ _ _ _ _ | exact Kd.N_nil _ _ _ _ _ | exact Kd.V_nil _ _ _ _ _ | exact Kd.Q_nil _ _ _ _ _ | exact Kd.S_nil _ _ _ _ _, by first | exact Kd.R_nil _ _ _ _ _ | exact Kd.N_nil _ _ _ _ _ | exact Kd.V_nil _ _ _ _ _ | exact Kd.Q_nil _ _ _ _ _ | exact Kd.S_nil _ _ _ _ _, by exact bS3 HB.out GE517.out GE518.out GE519.out⟩

end Go.Proofs.Ytlaikodjcjfeiaa.PFnEach
