/- The walk of what a law reaches, for the law's row: written by a program of this session; it has no condition of its own. -/
import Derived.Test.YtcnbajdnlkcjjaaPFnExactJoinx0
import Derived.Test.YtcnbajdnlkcjjaaQ
import Derived.Test.YtcnbajdnlkcjjaaPFnExactJoinx4
import Derived.Test.YtcnbajdnlkcjjaaPFnExactJoinx5
import Derived.Test.YtcnbajdnlkcjjaaPFnExactJoinx6
namespace Go.Proofs.Ytcnbajdnlkcjjaa.PFnExactJoin
open Go.RowKit Go.Proofs.YtcnbajdnlkcjjaaW.PrintWords Go.Proofs.YtcnbajdnlkcjjaaW.PrintLast Go.Proofs.YtcnbajdnlkcjjaaW.PrintMore Go.Proofs.YtcnbajdnlkcjjaaQ
attribute [local go_sem] max2_int min2_int max_two min_two max_three min_three max_four min_four   -- for this text's walks alone
set_option linter.unusedVariables false
set_option linter.unusedSimpArgs false

/-! ### impl_Join: function 51 -/
def impl_Join.j0 : Nat → Bool → List Int → List Int → List Int → List Int → Option (List Int × List Int × Int)
 | 0, _, _, _, _, _ => none
 | k + 1, x13, x292000, x292001, x293000, x293001 => if x13 = true then (some (([] : List Int), ([] : List Int), 1)) else ((impl_asRows.f x292000 x292001).bind fun bt296 => ((impl_asRows.f x293000 x293001).bind fun bt302 => (if (bt296.1.length : Int) = (bt302.1.length : Int) then (if 1 ≤ (bt296.1.length : Int) then (if 1 ≤ (bt302.1.length : Int) then ((slices_Equal_int_int.f k (bt296.1.drop 1) (bt302.1.drop 1)).bind fun t318 => (if t318 = true then ((impl_Rows.f k bt296.1 bt296.2).bind fun t319 => ((impl_Rows.f k bt302.1 bt302.2).bind fun t322 => (if t319.length + t322.length < 2932031007402 then ((impl_joined.f k (t319 ++ t322) (bt296.1.drop 1)).bind fun bt333 => (some (bt333.1, bt333.2.1, bt333.2.2))) else (none)))) else (some (([] : List Int), ([] : List Int), 3)))) else (none)) else (none)) else (some (([] : List Int), ([] : List Int), 4)))))
def impl_Join.f (k : Nat) (l0_0 : List Int) (l0_1 : List Int) (l1_0 : List Int) (l1_1 : List Int) : Option (List Int × List Int × Int) := (impl_ArrayOk.f k l0_0 l0_1).bind fun t294 => (if t294 = true then ((impl_ArrayOk.f k l1_0 l1_1).bind fun t295 => (impl_Join.j0 k (!t295) l0_0 l0_1 l1_0 l1_1)) else (impl_Join.j0 k true l0_0 l0_1 l1_0 l1_1))
def impl_Join.T6 : Bool × List (List Nat × List Nat) := (true, [([], []), ([0], [0]), ([1], [1]), ([], []), ([3], [3]), ([4], [4]), ([2, 5], [2, 5]), ([6], [6]), ([7, 6], [7])])
def impl_Join.B6 : List Nat := [0, 1, 3, 0, 8, 24, 63, 127, 255]
theorem impl_Join.tab6 : rtab .any (opsOf Try.f51 6) = impl_Join.T6 := by kernel_rfl
theorem impl_Join.bits6 : waitsOk impl_Join.T6.2 impl_Join.B6 = true := by kernel_rfl
def impl_Join.T8 : Bool × List (List Nat × List Nat) := (true, [([], []), ([0], [0]), ([], []), ([2, 1], [2]), ([1, 3, 3], [1, 3]), ([], []), ([5], [5]), ([6], [6]), ([4, 7, 4], [4, 7]), ([8], [8]), ([8], [8]), ([9, 8, 0, 1, 2, 3, 4, 5, 6, 7, 8, 9, 10], [9]), ([10, 11, 0, 1, 2, 3, 4, 5, 6, 7, 8, 9, 10, 11], [10])])
def impl_Join.B8 : List Nat := [0, 1, 0, 7, 15, 0, 32, 96, 255, 511, 511, 2047, 4095]
theorem impl_Join.tab8 : rtab .any (opsOf Try.f51 8) = impl_Join.T8 := by kernel_rfl
theorem impl_Join.bits8 : waitsOk impl_Join.T8.2 impl_Join.B8 = true := by kernel_rfl
set_option maxHeartbeats 8000000 in
set_option maxRecDepth 100000 in
theorem impl_Join.calls (k : Nat) (A0_0 : Option Addr) (c0_0 : Nat) (l0_0 : List Int) (A0_1 : Option Addr) (c0_1 : Nat) (l0_1 : List Int) (A1_0 : Option Addr) (c1_0 : Nat) (l1_0 : List Int) (A1_1 : Option Addr) (c1_1 : Nat) (l1_1 : List Int) (r1 : List Int) (r2 : List Int) (r3 : Int) (w : World) (hr0_0 : Kd.C (Kd.int .i64) w A0_0 l0_0.length l0_0) (hc0_0 : l0_0.length ≤ c0_0) (hr0_1 : Kd.C (Kd.int .i64) w A0_1 l0_1.length l0_1) (hc0_1 : l0_1.length ≤ c0_1) (hr1_0 : Kd.C (Kd.int .i64) w A1_0 l1_0.length l1_0) (hc1_0 : l1_0.length ≤ c1_0) (hr1_1 : Kd.C (Kd.int .i64) w A1_1 l1_1.length l1_1) (hc1_1 : l1_1.length ≤ c1_1) (h : impl_Join.f k l0_0 l0_1 l1_0 l1_1 = some (r1, r2, r3)) :
  Calls Try.prog 51 #[.agg #[.slice A0_0 l0_0.length c0_0, .slice A0_1 l0_1.length c0_1], .agg #[.slice A1_0 l1_0.length c1_0, .slice A1_1 l1_1.length c1_1]] w fun e w' => ∃ v0_ v1_ : Value, e = .returned (.tuple #[.agg #[v0_, v1_], .int .i64 r3]) ∧ Kd.R (Kd.int .i64) 3 w' w.heap.size (fun k_ => some k_ ≠ (v1_ : Value).ownBlock) v0_ r1 ∧ Kd.R (Kd.int .i64) 3 w' w.heap.size (fun k_ => some k_ ≠ (v0_ : Value).ownBlock) v1_ r2 ∧ Below w.heap.size w w' := by
 have hu26 := Try.underlying26
 have HR0_0 := Aside0.mk hr0_0
 have HC0_0 := Aside0.mk hc0_0
 clear hr0_0 hc0_0
 have HR0_1 := Aside0.mk hr0_1
 have HC0_1 := Aside0.mk hc0_1
 clear hr0_1 hc0_1
 have HR1_0 := Aside0.mk hr1_0
 have HC1_0 := Aside0.mk hc1_0
 clear hr1_0 hc1_0
 have HR1_1 := Aside0.mk hr1_1
 have HC1_1 := Aside0.mk hc1_1
 clear hr1_1 hc1_1
 have HB := Aside0.mk (Below.refl w.heap.size w)
 have H : ((impl_ArrayOk.f k l0_0 l0_1).bind fun t294 => (if t294 = true then ((impl_ArrayOk.f k l1_0 l1_1).bind fun t295 => (impl_Join.j0 k (!t295) l0_0 l0_1 l1_0 l1_1)) else (impl_Join.j0 k true l0_0 l0_1 l1_0 l1_1))) = some (r1, r2, r3) := h
 clear h
 have HC3 := Aside0.mk H
 clear H
 go_enter Try.func51, Try.ntmps51
 go_upto_region 1 with (first | ((with_reducible refine gate_dst (N := 2) rfl ?_); refine box_event ?hg (N := 2) ?hd (cs := #[.slice A0_0 l0_0.length c0_0, .slice A0_1 l0_1.length c0_1]) (t := 26) ?hr ?_; (case hd => rfl); (case hg => rfl); (case hr => first | (go_simp; done) | (go_simp; rfl)); intro gb291 hg w4 hbox hb; have BK291 := Aside0.mk (hbox); have GW291 := Aside0.mk ((by rw [hg]; exact (below_size (bU HB.out)) : w.heap.size ≤ gb291)); have GE291 := Aside0.mk ((by rw [hg]; exact (below_size (bU HB.out)) : w.heap.size ≤ gb291)); replace HB := Aside0.mk (below_step (bU HB.out) hb); clear hb hbox hg) | ((with_reducible refine gate_dst (N := 3) rfl ?_); refine box_event ?hg (N := 3) ?hd (cs := #[.slice A1_0 l1_0.length c1_0, .slice A1_1 l1_1.length c1_1]) (t := 26) ?hr ?_; (case hd => rfl); (case hg => rfl); (case hr => first | (go_simp; done) | (go_simp; rfl)); intro gb292 hg w5 hbox hb; have BK292 := Aside0.mk (hbox); have GW292 := Aside0.mk ((by rw [hg]; exact (below_size (bS1 HB.out GE291.out)) : w.heap.size ≤ gb292)); have GE292 := Aside0.mk ((by rw [hg]; exact (below_size (bS1 HB.out GE291.out)) : w.heap.size ≤ gb292)); replace HB := Aside0.mk (below_step (bS1 HB.out GE291.out) hb); have NB291_292 := Aside0.mk (kN BK291.out hg); have NB292_291 := Aside0.mk (kM BK291.out hg); replace BK291 := Aside0.mk (kB BK291.out hb); clear hb hbox hg) | ((with_reducible refine gate_dst (N := 4) rfl ?_); refine box_event ?hg (N := 4) ?hd (cs := #[.slice none 0 0, .slice none 0 0]) (t := 26) ?hr ?_; (case hd => rfl); (case hg => rfl); (case hr => first | (go_simp; done) | (go_simp; rfl)); intro gb293 hg w6 hbox hb; have BK293 := Aside0.mk (hbox); have GW293 := Aside0.mk ((by rw [hg]; exact (below_size (bS2 HB.out GE291.out GE292.out)) : w.heap.size ≤ gb293)); have GE293 := Aside0.mk ((by rw [hg]; exact (below_size (bS2 HB.out GE291.out GE292.out)) : w.heap.size ≤ gb293)); replace HB := Aside0.mk (below_step (bS2 HB.out GE291.out GE292.out) hb); have NB291_293 := Aside0.mk (kN BK291.out hg); have NB293_291 := Aside0.mk (kM BK291.out hg); replace BK291 := Aside0.mk (kB BK291.out hb); have NB292_293 := Aside0.mk (kN BK292.out hg); have NB293_292 := Aside0.mk (kM BK292.out hg); replace BK292 := Aside0.mk (kB BK292.out hb); clear hb hbox hg))
 (try simp only [Act.put, List.setIfInBounds_toArray, List.set_cons_zero, List.set_cons_succ])
 go_cut [13] (fun v13 wc => ∃ (kq : Nat) (x13_2 : Bool), v13 = .bool x13_2 ∧ Aside0 (impl_Join.j0 kq x13_2 l0_0 l0_1 l1_0 l1_1 = some (r1, r2, r3)) ∧ Aside0 (kq ≤ k) ∧ Aside0 (wc.heap[gb291]? = some (.cells #[(.slice A0_0 l0_0.length c0_0), (.slice A0_1 l0_1.length c0_1)] 26 (0, 0))) ∧ Aside0 (wc.heap[gb292]? = some (.cells #[(.slice A1_0 l1_0.length c1_0), (.slice A1_1 l1_1.length c1_1)] 26 (0, 0))) ∧ Aside0 (wc.heap[gb293]? = some (.cells #[(.slice none 0 0), (.slice none 0 0)] 26 (0, 0))) ∧ Aside0 (Below w.heap.size w wc))
 case first =>
  have H := HC3.out
  clear HC3
  replace H := Option.bind_eq_some_iff.mp H
  obtain ⟨t294, A70, H⟩ := H
  replace H : (if t294 = true then ((impl_ArrayOk.f k l1_0 l1_1).bind fun t295 => (impl_Join.j0 k (!t295) l0_0 l0_1 l1_0 l1_1)) else (impl_Join.j0 k true l0_0 l0_1 l1_0 l1_1)) = some (r1, r2, r3) := H
  have A7 := Aside0.mk A70
  clear A70
  by_cases c8 : t294 = true
  ·
   subst c8
   have H1 : ((impl_ArrayOk.f k l1_0 l1_1).bind fun t295 => (impl_Join.j0 k (!t295) l0_0 l0_1 l1_0 l1_1)) = some (r1, r2, r3) := by rw [if_pos rfl] at H; exact H
   clear H
   have H := H1
   clear H1
   replace H := Option.bind_eq_some_iff.mp H
   obtain ⟨t295, A90, H⟩ := H
   replace H : (impl_Join.j0 k (!t295) l0_0 l0_1 l1_0 l1_1) = some (r1, r2, r3) := H
   have A9 := Aside0.mk A90
   clear A90
   have H' := Aside0.mk H
   clear H
   have hnb10 := NB291_292.out
   have hnc10 := NB292_291.out
   have hnb11 := NB291_293.out
   have hnc11 := NB293_291.out
   have hcz12_0 : w6.cell? ⟨gb291, 0, none⟩ = some (.slice A0_0 l0_0.length c0_0) := (blk_cell BK291.out 0).trans rfl
   have hcz12_1 : w6.cell? ⟨gb291, 1, none⟩ = some (.slice A0_1 l0_1.length c0_1) := (blk_cell BK291.out 1).trans rfl
   have hfz12_0 := blk_frozen BK291.out 0
   have hfz12_1 := blk_frozen BK291.out 1
   go_wp2_with (first | ((with_reducible refine gate_callee (f := 36) rfl ?_); refine goesL_ (some 7) rfl rfl Try.func36 (by kernel_rfl) rfl #[.agg #[.slice A0_0 l0_0.length c0_0, .slice A0_1 l0_1.length c0_1]] rfl lU ?_; (with_reducible refine (impl_ArrayOk.calls k _ _ l0_0 _ _ l0_1 true _ ?side1 ?side2 ?side3 ?side4 A7.out).mono ?_); (case side1 => exact cU (Kd.C_below HR0_0.out HB.out)); (case side2 => exact HC0_0.out); (case side3 => exact cU (Kd.C_below HR0_1.out HB.out)); (case side4 => exact HC0_1.out); rintro e w13 ⟨rfl, hb⟩; refine ⟨_, rfl, ?_⟩; replace BK291 := Aside0.mk (kB BK291.out hb); replace BK292 := Aside0.mk (kB BK292.out hb); replace BK293 := Aside0.mk (kB BK293.out hb); replace HB := Aside0.mk (below_step (bS3 HB.out GE291.out GE292.out GE293.out) hb); (try clear hb); (try clear hb2); (try clear hk); (try clear hi); have hnb14 := NB292_293.out; have hnc14 := NB293_292.out; have hcz15_0 : w13.cell? ⟨gb292, 0, none⟩ = some (.slice A1_0 l1_0.length c1_0) := (blk_cell BK292.out 0).trans rfl; have hcz15_1 : w13.cell? ⟨gb292, 1, none⟩ = some (.slice A1_1 l1_1.length c1_1) := (blk_cell BK292.out 1).trans rfl; have hfz15_0 := blk_frozen BK292.out 0; have hfz15_1 := blk_frozen BK292.out 1) | (go_at_call 36; (repeat rw [i64_w]); (with_reducible refine (impl_ArrayOk.calls k _ _ l1_0 _ _ l1_1 t295 _ ?side1 ?side2 ?side3 ?side4 A9.out).mono ?_); (case side1 => exact cU (Kd.C_below HR1_0.out HB.out)); (case side2 => exact HC1_0.out); (case side3 => exact cU (Kd.C_below HR1_1.out HB.out)); (case side4 => exact HC1_1.out); rintro e w16 ⟨rfl, hb⟩; replace BK291 := Aside0.mk (kB BK291.out hb); replace BK292 := Aside0.mk (kB BK292.out hb); replace BK293 := Aside0.mk (kB BK293.out hb); replace HB := Aside0.mk (below_step (bS3 HB.out GE291.out GE292.out GE293.out) hb); (try clear hb); (try clear hb2); (try clear hk); (try clear hi)))
   go_meet
   case rel => exact ⟨_, (!t295), (by first | rfl | (simp; done) | (simp [*]; done)), H', ⟨by first | omega | exact Nat.le_refl _⟩, ⟨by refine kU ?_; exact BK291.out⟩, ⟨by refine kU ?_; exact BK292.out⟩, ⟨by refine kU ?_; exact BK293.out⟩, ⟨by exact bS3 HB.out GE291.out GE292.out GE293.out⟩⟩
  ·
   replace c8 := Bool.eq_false_iff.mpr c8
   subst c8
   have H1 : (impl_Join.j0 k true l0_0 l0_1 l1_0 l1_1) = some (r1, r2, r3) := by rw [if_neg (show ¬ (false = true) by decide)] at H; exact H
   clear H
   have H := H1
   clear H1
   have H' := Aside0.mk H
   clear H
   have hnb17 := NB291_292.out
   have hnc17 := NB292_291.out
   have hnb18 := NB291_293.out
   have hnc18 := NB293_291.out
   have hcz19_0 : w6.cell? ⟨gb291, 0, none⟩ = some (.slice A0_0 l0_0.length c0_0) := (blk_cell BK291.out 0).trans rfl
   have hcz19_1 : w6.cell? ⟨gb291, 1, none⟩ = some (.slice A0_1 l0_1.length c0_1) := (blk_cell BK291.out 1).trans rfl
   have hfz19_0 := blk_frozen BK291.out 0
   have hfz19_1 := blk_frozen BK291.out 1
   go_wp2_with (first | ((with_reducible refine gate_callee (f := 36) rfl ?_); refine goesL_ (some 7) rfl rfl Try.func36 (by kernel_rfl) rfl #[.agg #[.slice A0_0 l0_0.length c0_0, .slice A0_1 l0_1.length c0_1]] rfl lU ?_; (with_reducible refine (impl_ArrayOk.calls k _ _ l0_0 _ _ l0_1 false _ ?side1 ?side2 ?side3 ?side4 A7.out).mono ?_); (case side1 => exact cU (Kd.C_below HR0_0.out HB.out)); (case side2 => exact HC0_0.out); (case side3 => exact cU (Kd.C_below HR0_1.out HB.out)); (case side4 => exact HC0_1.out); rintro e w20 ⟨rfl, hb⟩; refine ⟨_, rfl, ?_⟩; replace BK291 := Aside0.mk (kB BK291.out hb); replace BK292 := Aside0.mk (kB BK292.out hb); replace BK293 := Aside0.mk (kB BK293.out hb); replace HB := Aside0.mk (below_step (bS3 HB.out GE291.out GE292.out GE293.out) hb); (try clear hb); (try clear hb2); (try clear hk); (try clear hi)))
   go_meet
   case rel => exact ⟨_, (true), (by first | rfl | (simp; done) | (simp [*]; done)), H', ⟨by first | omega | exact Nat.le_refl _⟩, ⟨by refine kU ?_; exact BK291.out⟩, ⟨by refine kU ?_; exact BK292.out⟩, ⟨by refine kU ?_; exact BK293.out⟩, ⟨by exact bS3 HB.out GE291.out GE292.out GE293.out⟩⟩
 case rest =>
  clear HC3
  try clear c1
  try clear p2
  try clear c3
  try clear c5
  try clear c8
  try clear c10
  try clear c11
  try clear c14
  try clear c17
  try clear c18
  try clear hcz12_0
  try clear hcz12_1
  try clear hcz15_0
  try clear hcz15_1
  try clear hcz19_0
  try clear hcz19_1
  try clear hfz12_0
  try clear hfz12_1
  try clear hfz15_0
  try clear hfz15_1
  try clear hfz19_0
  try clear hfz19_1
  obtain ⟨kq, x13_2, rfl, HA, HJ2, BK291, BK292, BK293, HB⟩ := hcut
  cases kq with
  | zero => exact absurd HA.out (by simp [impl_Join.j0])
  | succ kj2 =>
   have H := HA.out
   clear HA
   simp only [impl_Join.j0] at H
   by_cases c21 : x13_2 = true
   ·
    subst c21
    have H1 : (some (([] : List Int), ([] : List Int), 1)) = some (r1, r2, r3) := by rw [if_pos rfl] at H; exact H
    clear H
    have H := H1
    clear H1
    simp only [Option.some.injEq, Prod.mk.injEq] at H
    obtain ⟨rfl, rfl, rfl⟩ := H
    have hnb22 := NB293_291.out
    have hnc22 := NB291_293.out
    have hnb23 := NB293_292.out
    have hnc23 := NB292_293.out
    have hcz24_0 : wc.cell? ⟨gb293, 0, none⟩ = some (.slice none 0 0) := (blk_cell BK293.out 0).trans rfl
    have hcz24_1 : wc.cell? ⟨gb293, 1, none⟩ = some (.slice none 0 0) := (blk_cell BK293.out 1).trans rfl
    have hfz24_0 := blk_frozen BK293.out 0
    have hfz24_1 := blk_frozen BK293.out 1
    go_wp2
    refine bodyPost_ret (results_ct rfl _ _ gb293 26 #[.slice none 0 0, .slice none 0 0] (0, 0) _ rfl (by refine kU ?_; refine blk_put (cs := #[.slice none 0 0, .slice none 0 0]) ?_ 1 _ rfl; refine kU ?_; refine blk_put (cs := #[.slice none 0 0, .slice none 0 0]) ?_ 0 _ rfl; refine kU ?_; exact BK293.out) Try.underlying26 rfl (by kernel_rfl)) rfl ?_
    exact ⟨_, _, by first | rfl | (simp [errW_none, errW_some] <;> rfl) | (simp [*, errW_none, errW_some] <;> rfl), by first | exact Kd.R_nil _ _ _ _ _ | exact Kd.N_nil _ _ _ _ _ | exact Kd.V_nil _ _ _ _ _ | exact Kd.Q_nil _ _ _ _ _ | exact Kd.S_nil _ _ _ _ _, by first | exact Kd.R_nil _ _ _ _ _ | exact Kd.N_nil _ _ _ _ _ | exact Kd.V_nil _ _ _ _ _ | exact Kd.Q_nil _ _ _ _ _ | exact Kd.S_nil _ _ _ _ _, by exact bS3 HB.out GE291.out GE292.out GE293.out⟩
   ·
    replace c21 := Bool.eq_false_iff.mpr c21
    subst c21
    have H1 : ((impl_asRows.f l0_0 l0_1).bind fun bt296 => ((impl_asRows.f l1_0 l1_1).bind fun bt302 => (if (bt296.1.length : Int) = (bt302.1.length : Int) then (if 1 ≤ (bt296.1.length : Int) then (if 1 ≤ (bt302.1.length : Int) then ((slices_Equal_int_int.f kj2 (bt296.1.drop 1) (bt302.1.drop 1)).bind fun t318 => (if t318 = true then ((impl_Rows.f kj2 bt296.1 bt296.2).bind fun t319 => ((impl_Rows.f kj2 bt302.1 bt302.2).bind fun t322 => (if t319.length + t322.length < 2932031007402 then ((impl_joined.f kj2 (t319 ++ t322) (bt296.1.drop 1)).bind fun bt333 => (some (bt333.1, bt333.2.1, bt333.2.2))) else (none)))) else (some (([] : List Int), ([] : List Int), 3)))) else (none)) else (none)) else (some (([] : List Int), ([] : List Int), 4))))) = some (r1, r2, r3) := by rw [if_neg (show ¬ (false = true) by decide)] at H; exact H
    clear H
    have H := H1
    clear H1
    replace H := Option.bind_eq_some_iff.mp H
    obtain ⟨⟨t296, t299⟩, A250, H⟩ := H
    replace H : ((impl_asRows.f l1_0 l1_1).bind fun bt302 => (if (t296.length : Int) = (bt302.1.length : Int) then (if 1 ≤ (t296.length : Int) then (if 1 ≤ (bt302.1.length : Int) then ((slices_Equal_int_int.f kj2 (t296.drop 1) (bt302.1.drop 1)).bind fun t318 => (if t318 = true then ((impl_Rows.f kj2 t296 t299).bind fun t319 => ((impl_Rows.f kj2 bt302.1 bt302.2).bind fun t322 => (if t319.length + t322.length < 2932031007402 then ((impl_joined.f kj2 (t319 ++ t322) (t296.drop 1)).bind fun bt333 => (some (bt333.1, bt333.2.1, bt333.2.2))) else (none)))) else (some (([] : List Int), ([] : List Int), 3)))) else (none)) else (none)) else (some (([] : List Int), ([] : List Int), 4)))) = some (r1, r2, r3) := H
    have A25 := Aside0.mk A250
    clear A250
    replace H := Option.bind_eq_some_iff.mp H
    obtain ⟨⟨t302, t305⟩, A260, H⟩ := H
    replace H : (if (t296.length : Int) = (t302.length : Int) then (if 1 ≤ (t296.length : Int) then (if 1 ≤ (t302.length : Int) then ((slices_Equal_int_int.f kj2 (t296.drop 1) (t302.drop 1)).bind fun t318 => (if t318 = true then ((impl_Rows.f kj2 t296 t299).bind fun t319 => ((impl_Rows.f kj2 t302 t305).bind fun t322 => (if t319.length + t322.length < 2932031007402 then ((impl_joined.f kj2 (t319 ++ t322) (t296.drop 1)).bind fun bt333 => (some (bt333.1, bt333.2.1, bt333.2.2))) else (none)))) else (some (([] : List Int), ([] : List Int), 3)))) else (none)) else (none)) else (some (([] : List Int), ([] : List Int), 4))) = some (r1, r2, r3) := H
    have A26 := Aside0.mk A260
    clear A260
    by_cases c27 : (t296.length : Int) = (t302.length : Int)
    ·
     rw [if_pos c27] at H
     have c27b0 : ((t296.length : Int) == (t302.length : Int)) = true := beq_iff_eq.mpr c27
     have c27b1 : ((t296.length : Int) != (t302.length : Int)) = false := bne_eq_false_iff_eq.mpr c27
     have c27b2 : (t296.length == t302.length) = true := by first | simpa using c27 | (simp at c27 ⊢; omega)
     clear c27
     by_cases c28 : 1 ≤ (t296.length : Int)
     ·
      rw [if_pos c28] at H
      have c28b0 := eq_true c28
      have c28b1 : decide (1 ≤ (t296.length : Int)) = true := decide_eq_true c28
      clear c28
      obtain ⟨y308, hy308⟩ : ∃ y_ : List Int, y_ = (t296.drop 1) := ⟨_, rfl⟩
      replace H : (if 1 ≤ (t302.length : Int) then ((slices_Equal_int_int.f kj2 y308 (t302.drop 1)).bind fun t318 => (if t318 = true then ((impl_Rows.f kj2 t296 t299).bind fun t319 => ((impl_Rows.f kj2 t302 t305).bind fun t322 => (if t319.length + t322.length < 2932031007402 then ((impl_joined.f kj2 (t319 ++ t322) (t296.drop 1)).bind fun bt333 => (some (bt333.1, bt333.2.1, bt333.2.2))) else (none)))) else (some (([] : List Int), ([] : List Int), 3)))) else (none)) = some (r1, r2, r3) := by first | (rw [hy308]; with_reducible exact H) | (have H2_ := (Option.bind_some _ _).symm.trans H; rw [hy308]; with_reducible exact H2_) | (have H2_ := (Option.bind_some _ _).symm.trans H; with_reducible exact H2_) | with_reducible exact H | (rw [hy308]; exact H) | exact H
      have Ny308 := Aside0.mk hy308
      clear hy308
      by_cases c29 : 1 ≤ (t302.length : Int)
      ·
       rw [if_pos c29] at H
       have c29b0 := eq_true c29
       have c29b1 : decide (1 ≤ (t302.length : Int)) = true := decide_eq_true c29
       clear c29
       obtain ⟨y313, hy313⟩ : ∃ y_ : List Int, y_ = (t302.drop 1) := ⟨_, rfl⟩
       replace H : ((slices_Equal_int_int.f kj2 y308 y313).bind fun t318 => (if t318 = true then ((impl_Rows.f kj2 t296 t299).bind fun t319 => ((impl_Rows.f kj2 t302 t305).bind fun t322 => (if t319.length + t322.length < 2932031007402 then ((impl_joined.f kj2 (t319 ++ t322) (t296.drop 1)).bind fun bt333 => (some (bt333.1, bt333.2.1, bt333.2.2))) else (none)))) else (some (([] : List Int), ([] : List Int), 3)))) = some (r1, r2, r3) := by first | (rw [hy313]; with_reducible exact H) | (have H2_ := (Option.bind_some _ _).symm.trans H; rw [hy313]; with_reducible exact H2_) | (have H2_ := (Option.bind_some _ _).symm.trans H; with_reducible exact H2_) | with_reducible exact H | (rw [hy313]; exact H) | exact H
       have Ny313 := Aside0.mk hy313
       clear hy313
       replace H := Option.bind_eq_some_iff.mp H
       obtain ⟨t318, A300, H⟩ := H
       replace H : (if t318 = true then ((impl_Rows.f kj2 t296 t299).bind fun t319 => ((impl_Rows.f kj2 t302 t305).bind fun t322 => (if t319.length + t322.length < 2932031007402 then ((impl_joined.f kj2 (t319 ++ t322) (t296.drop 1)).bind fun bt333 => (some (bt333.1, bt333.2.1, bt333.2.2))) else (none)))) else (some (([] : List Int), ([] : List Int), 3))) = some (r1, r2, r3) := H
       have A30 := Aside0.mk A300
       clear A300
       by_cases c31 : t318 = true
       ·
        subst c31
        have H1 : ((impl_Rows.f kj2 t296 t299).bind fun t319 => ((impl_Rows.f kj2 t302 t305).bind fun t322 => (if t319.length + t322.length < 2932031007402 then ((impl_joined.f kj2 (t319 ++ t322) (t296.drop 1)).bind fun bt333 => (some (bt333.1, bt333.2.1, bt333.2.2))) else (none)))) = some (r1, r2, r3) := by rw [if_pos rfl] at H; exact H
        clear H
        have H := H1
        clear H1
        replace H := Option.bind_eq_some_iff.mp H
        obtain ⟨t319, A320, H⟩ := H
        replace H : ((impl_Rows.f kj2 t302 t305).bind fun t322 => (if t319.length + t322.length < 2932031007402 then ((impl_joined.f kj2 (t319 ++ t322) (t296.drop 1)).bind fun bt333 => (some (bt333.1, bt333.2.1, bt333.2.2))) else (none))) = some (r1, r2, r3) := H
        have A32 := Aside0.mk A320
        clear A320
        replace H := Option.bind_eq_some_iff.mp H
        obtain ⟨t322, A330, H⟩ := H
        replace H : (if t319.length + t322.length < 2932031007402 then ((impl_joined.f kj2 (t319 ++ t322) (t296.drop 1)).bind fun bt333 => (some (bt333.1, bt333.2.1, bt333.2.2))) else (none)) = some (r1, r2, r3) := H
        have A33 := Aside0.mk A330
        clear A330
        by_cases c34 : t319.length + t322.length < 2932031007402
        ·
         rw [if_pos c34] at H
         have LMc34 := Aside0.mk c34
         clear c34
         obtain ⟨y325, hy325⟩ : ∃ y_ : List (S26), y_ = (t319 ++ t322) := ⟨_, rfl⟩
         replace H : ((impl_joined.f kj2 y325 (t296.drop 1)).bind fun bt333 => (some (bt333.1, bt333.2.1, bt333.2.2))) = some (r1, r2, r3) := by first | (rw [hy325]; with_reducible exact H) | (have H2_ := (Option.bind_some _ _).symm.trans H; rw [hy325]; with_reducible exact H2_) | (have H2_ := (Option.bind_some _ _).symm.trans H; with_reducible exact H2_) | with_reducible exact H | (rw [hy325]; exact H) | exact H
         have Ny325 := Aside0.mk hy325
         clear hy325
         have c35b0 := eq_true (of_decide_eq_true (by first | (with_reducible assumption) | assumption) : 1 ≤ (t296.length : Int))
         obtain ⟨y328, hy328⟩ : ∃ y_ : List Int, y_ = (t296.drop 1) := ⟨_, rfl⟩
         replace H : ((impl_joined.f kj2 y325 y328).bind fun bt333 => (some (bt333.1, bt333.2.1, bt333.2.2))) = some (r1, r2, r3) := by first | (rw [hy328]; with_reducible exact H) | (have H2_ := (Option.bind_some _ _).symm.trans H; rw [hy328]; with_reducible exact H2_) | (have H2_ := (Option.bind_some _ _).symm.trans H; with_reducible exact H2_) | with_reducible exact H | (rw [hy328]; exact H) | exact H
         have Ny328 := Aside0.mk hy328
         clear hy328
         replace H := Option.bind_eq_some_iff.mp H
         obtain ⟨⟨t333, t336, t339⟩, A360, H⟩ := H
         replace H : (some (t333, t336, t339)) = some (r1, r2, r3) := H
         have A36 := Aside0.mk A360
         clear A360
         simp only [Option.some.injEq, Prod.mk.injEq] at H
         obtain ⟨rfl, rfl, rfl⟩ := H
         try go_wp2
         replace BK291 := Aside0.mk (blk_drew BK291.out)
         replace BK292 := Aside0.mk (blk_drew BK292.out)
         replace BK293 := Aside0.mk (blk_drew BK293.out)
         replace HB := Aside0.mk (below_drew1 HB.out)
         refine start_ (n := 6) (S := fun w' => w'.cell? ⟨gb291, 0, none⟩ = some (.slice A0_0 l0_0.length c0_0) ∧ w'.cell? ⟨gb291, 1, none⟩ = some (.slice A0_1 l0_1.length c0_1) ∧ w'.cell? ⟨gb292, 0, none⟩ = some (.slice A1_0 l1_0.length c1_0) ∧ w'.cell? ⟨gb292, 1, none⟩ = some (.slice A1_1 l1_1.length c1_1)) (ds := [4, 5]) #[false, false, false, false, false, false] (by kernel_rfl) rfl rfl ⟨(blk_cell BK291.out 0).trans rfl, (blk_cell BK291.out 1).trans rfl, (blk_cell BK292.out 0).trans rfl, (blk_cell BK292.out 1).trans rfl⟩ (fun hHeld => ?_)
         generalize wc.drew = w37 at BK291 BK292 BK293 HB hHeld ⊢
         refine take_ (i := 0) (N := some 15) (v := ?_) (a' := ?_) #[true, false, false, false, false, false] rfl rfl (by kernel_rfl) (fun _ _ _ h => h) (Or.inl ⟨by rfl, ?_⟩) hHeld ?_ ?_
         rotate_left
         ·
          rintro w' ⟨s0, s1, s2, s3⟩
          go_simp
          with_reducible rfl
         rotate_left
         ·
          simp only [Act.put, List.setIfInBounds_toArray, List.set_cons_zero, List.set_cons_succ, i64_w, i32_w]
          rfl
         refine take_ (i := 2) (N := some 17) (v := ?_) (a' := ?_) #[true, false, true, false, false, false] rfl rfl (by kernel_rfl) (fun _ _ _ h => h) (Or.inl ⟨by rfl, ?_⟩) hHeld ?_ ?_
         rotate_left
         ·
          rintro w' ⟨s0, s1, s2, s3⟩
          go_simp
          with_reducible rfl
         rotate_left
         ·
          simp only [Act.put, List.setIfInBounds_toArray, List.set_cons_zero, List.set_cons_succ, i64_w, i32_w]
          rfl
         refine one_ (i := 1) (N := some 16) #[true, true, true, false, false, false] rfl rfl (by kernel_rfl) (by decide) (fun K hK => ?_)
         refine goes_ Try.func103 (by kernel_rfl) rfl #[.agg #[.slice A0_0 l0_0.length c0_0, .slice A0_1 l0_1.length c0_1]] (by rfl) rfl rfl lU ?_
         with_reducible refine (impl_asRows.calls (fun k_ => k_ < w.heap.size) _ _ l0_0 (fun k_ => k_ < w.heap.size) _ _ l0_1 t296 t299 _ ?side1 ?side2 A25.out).mono ?_
         (case side1 => exact Kd.V_mk HC0_0.out (Kd.F_below (Kd.C_F (Kd.heap_int .i64) HR0_0.out) (bS3 HB.out GE291.out GE292.out GE293.out)))
         (case side2 => exact Kd.V_mk HC0_1.out (Kd.F_below (Kd.C_F (Kd.heap_int .i64) HR0_1.out) (bS3 HB.out GE291.out GE292.out GE293.out)))
         rintro e w38 ⟨v297, v300, rfl, ho0, ho1, hb⟩
         refine ⟨_, rfl, ?_⟩
         have HO298 := Aside0.mk (Kd.V_lower (Kd.V_mono (ok' := fun k_ => k_ ≠ gb291 ∧ k_ ≠ gb292 ∧ k_ ≠ gb293) ho0 (fun k_ hk_ => ⟨Or.elim hk_ (fun hs_ => Or.elim hs_ (fun hs_ => fun e_ => Nat.not_le.2 hs_ (by rw [e_]; exact GW291.out)) (fun hs_ => fun e_ => Nat.not_le.2 hs_ (by rw [e_]; exact GW291.out))) (fun hn_ => (Kd.freshB (g := gb291) (o := .cells #[.slice A0_0 l0_0.length c0_0, .slice A0_1 l0_1.length c0_1] 26 (0, 0)) (kU BK291.out) k_ hn_)), Or.elim hk_ (fun hs_ => Or.elim hs_ (fun hs_ => fun e_ => Nat.not_le.2 hs_ (by rw [e_]; exact GW292.out)) (fun hs_ => fun e_ => Nat.not_le.2 hs_ (by rw [e_]; exact GW292.out))) (fun hn_ => (Kd.freshB (g := gb292) (o := .cells #[.slice A1_0 l1_0.length c1_0, .slice A1_1 l1_1.length c1_1] 26 (0, 0)) (kU BK292.out) k_ hn_)), Or.elim hk_ (fun hs_ => Or.elim hs_ (fun hs_ => fun e_ => Nat.not_le.2 hs_ (by rw [e_]; exact GW293.out)) (fun hs_ => fun e_ => Nat.not_le.2 hs_ (by rw [e_]; exact GW293.out))) (fun hn_ => (Kd.freshB (g := gb293) (o := .cells #[.slice none 0 0, .slice none 0 0] 26 (0, 0)) (kU BK293.out) k_ hn_))⟩)) (below_size (bS3 HB.out GE291.out GE292.out GE293.out)))
         have HO301 := Aside0.mk (Kd.V_lower (Kd.V_mono (ok' := fun k_ => k_ ≠ gb291 ∧ k_ ≠ gb292 ∧ k_ ≠ gb293) ho1 (fun k_ hk_ => ⟨Or.elim hk_ (fun hs_ => Or.elim hs_ (fun hs_ => fun e_ => Nat.not_le.2 hs_ (by rw [e_]; exact GW291.out)) (fun hs_ => fun e_ => Nat.not_le.2 hs_ (by rw [e_]; exact GW291.out))) (fun hn_ => (Kd.freshB (g := gb291) (o := .cells #[.slice A0_0 l0_0.length c0_0, .slice A0_1 l0_1.length c0_1] 26 (0, 0)) (kU BK291.out) k_ hn_)), Or.elim hk_ (fun hs_ => Or.elim hs_ (fun hs_ => fun e_ => Nat.not_le.2 hs_ (by rw [e_]; exact GW292.out)) (fun hs_ => fun e_ => Nat.not_le.2 hs_ (by rw [e_]; exact GW292.out))) (fun hn_ => (Kd.freshB (g := gb292) (o := .cells #[.slice A1_0 l1_0.length c1_0, .slice A1_1 l1_1.length c1_1] 26 (0, 0)) (kU BK292.out) k_ hn_)), Or.elim hk_ (fun hs_ => Or.elim hs_ (fun hs_ => fun e_ => Nat.not_le.2 hs_ (by rw [e_]; exact GW293.out)) (fun hs_ => fun e_ => Nat.not_le.2 hs_ (by rw [e_]; exact GW293.out))) (fun hn_ => (Kd.freshB (g := gb293) (o := .cells #[.slice none 0 0, .slice none 0 0] 26 (0, 0)) (kU BK293.out) k_ hn_))⟩)) (below_size (bS3 HB.out GE291.out GE292.out GE293.out)))
         replace BK291 := Aside0.mk (kB BK291.out hb)
         replace BK292 := Aside0.mk (kB BK292.out hb)
         replace BK293 := Aside0.mk (kB BK293.out hb)
         replace HB := Aside0.mk (below_step (bS3 HB.out GE291.out GE292.out GE293.out) hb)
         (try clear hb)
         (try clear hb2)
         (try clear hk)
         (try clear hi)
         (try clear ho0)
         (try clear ho1)
         refine hK.out _ _ ⟨(blk_cell BK291.out 0).trans rfl, (blk_cell BK291.out 1).trans rfl, (blk_cell BK292.out 0).trans rfl, (blk_cell BK292.out 1).trans rfl⟩ (fun hHeld => ?_)
         clear hK K
         refine norm_ (a' := ?_) ?_ ?_
         rotate_left
         ·
          show Act.put _ (some 16) _ = _
          simp only [Act.put, List.setIfInBounds_toArray, List.set_cons_zero, List.set_cons_succ, i64_w, i32_w]
          rfl
         refine one_ (i := 3) (N := some 18) #[true, true, true, true, false, false] rfl rfl (by kernel_rfl) (by decide) (fun K hK => ?_)
         refine goes_ Try.func103 (by kernel_rfl) rfl #[.agg #[.slice A1_0 l1_0.length c1_0, .slice A1_1 l1_1.length c1_1]] (by rfl) rfl rfl lU ?_
         with_reducible refine (impl_asRows.calls (fun k_ => k_ < w.heap.size) _ _ l1_0 (fun k_ => k_ < w.heap.size) _ _ l1_1 t302 t305 _ ?side1 ?side2 A26.out).mono ?_
         (case side1 => exact Kd.V_mk HC1_0.out (Kd.F_below (Kd.C_F (Kd.heap_int .i64) HR1_0.out) (bS3 HB.out GE291.out GE292.out GE293.out)))
         (case side2 => exact Kd.V_mk HC1_1.out (Kd.F_below (Kd.C_F (Kd.heap_int .i64) HR1_1.out) (bS3 HB.out GE291.out GE292.out GE293.out)))
         rintro e w39 ⟨v303, v306, rfl, ho0, ho1, hb⟩
         refine ⟨_, rfl, ?_⟩
         replace HO298 := Aside0.mk (Kd.V_below (VU HO298.out) hb)
         replace HO301 := Aside0.mk (Kd.V_below (VU HO301.out) hb)
         have HO304 := Aside0.mk (Kd.V_lower (Kd.V_mono (ok' := fun k_ => k_ ≠ gb291 ∧ k_ ≠ gb292 ∧ k_ ≠ gb293) ho0 (fun k_ hk_ => ⟨Or.elim hk_ (fun hs_ => Or.elim hs_ (fun hs_ => fun e_ => Nat.not_le.2 hs_ (by rw [e_]; exact GW291.out)) (fun hs_ => fun e_ => Nat.not_le.2 hs_ (by rw [e_]; exact GW291.out))) (fun hn_ => (Kd.freshB (g := gb291) (o := .cells #[.slice A0_0 l0_0.length c0_0, .slice A0_1 l0_1.length c0_1] 26 (0, 0)) (kU BK291.out) k_ hn_)), Or.elim hk_ (fun hs_ => Or.elim hs_ (fun hs_ => fun e_ => Nat.not_le.2 hs_ (by rw [e_]; exact GW292.out)) (fun hs_ => fun e_ => Nat.not_le.2 hs_ (by rw [e_]; exact GW292.out))) (fun hn_ => (Kd.freshB (g := gb292) (o := .cells #[.slice A1_0 l1_0.length c1_0, .slice A1_1 l1_1.length c1_1] 26 (0, 0)) (kU BK292.out) k_ hn_)), Or.elim hk_ (fun hs_ => Or.elim hs_ (fun hs_ => fun e_ => Nat.not_le.2 hs_ (by rw [e_]; exact GW293.out)) (fun hs_ => fun e_ => Nat.not_le.2 hs_ (by rw [e_]; exact GW293.out))) (fun hn_ => (Kd.freshB (g := gb293) (o := .cells #[.slice none 0 0, .slice none 0 0] 26 (0, 0)) (kU BK293.out) k_ hn_))⟩)) (below_size (bS3 HB.out GE291.out GE292.out GE293.out)))
         have HO307 := Aside0.mk (Kd.V_lower (Kd.V_mono (ok' := fun k_ => k_ ≠ gb291 ∧ k_ ≠ gb292 ∧ k_ ≠ gb293) ho1 (fun k_ hk_ => ⟨Or.elim hk_ (fun hs_ => Or.elim hs_ (fun hs_ => fun e_ => Nat.not_le.2 hs_ (by rw [e_]; exact GW291.out)) (fun hs_ => fun e_ => Nat.not_le.2 hs_ (by rw [e_]; exact GW291.out))) (fun hn_ => (Kd.freshB (g := gb291) (o := .cells #[.slice A0_0 l0_0.length c0_0, .slice A0_1 l0_1.length c0_1] 26 (0, 0)) (kU BK291.out) k_ hn_)), Or.elim hk_ (fun hs_ => Or.elim hs_ (fun hs_ => fun e_ => Nat.not_le.2 hs_ (by rw [e_]; exact GW292.out)) (fun hs_ => fun e_ => Nat.not_le.2 hs_ (by rw [e_]; exact GW292.out))) (fun hn_ => (Kd.freshB (g := gb292) (o := .cells #[.slice A1_0 l1_0.length c1_0, .slice A1_1 l1_1.length c1_1] 26 (0, 0)) (kU BK292.out) k_ hn_)), Or.elim hk_ (fun hs_ => Or.elim hs_ (fun hs_ => fun e_ => Nat.not_le.2 hs_ (by rw [e_]; exact GW293.out)) (fun hs_ => fun e_ => Nat.not_le.2 hs_ (by rw [e_]; exact GW293.out))) (fun hn_ => (Kd.freshB (g := gb293) (o := .cells #[.slice none 0 0, .slice none 0 0] 26 (0, 0)) (kU BK293.out) k_ hn_))⟩)) (below_size (bS3 HB.out GE291.out GE292.out GE293.out)))
         replace BK291 := Aside0.mk (kB BK291.out hb)
         replace BK292 := Aside0.mk (kB BK292.out hb)
         replace BK293 := Aside0.mk (kB BK293.out hb)
         replace HB := Aside0.mk (below_step (bS3 HB.out GE291.out GE292.out GE293.out) hb)
         (try clear hb)
         (try clear hb2)
         (try clear hk)
         (try clear hi)
         (try clear ho0)
         (try clear ho1)
         obtain ⟨Ao40, co40, eo40⟩ := Kd.V_slice HO298.out
         (first | subst eo40 | (injection eo40 with f1_ f2_ f3_; have f4_ := f1_.symm; have f5_ := f3_.symm; clear f1_ f2_ f3_; subst f4_; subst f5_))
         obtain ⟨Ao42, co42, eo42⟩ := Kd.V_slice HO301.out
         (first | subst eo42 | (injection eo42 with f1_ f2_ f3_; have f4_ := f1_.symm; have f5_ := f3_.symm; clear f1_ f2_ f3_; subst f4_; subst f5_))
         obtain ⟨Ao44, co44, eo44⟩ := Kd.V_slice HO304.out
         (first | subst eo44 | (injection eo44 with f1_ f2_ f3_; have f4_ := f1_.symm; have f5_ := f3_.symm; clear f1_ f2_ f3_; subst f4_; subst f5_))
         obtain ⟨Ao46, co46, eo46⟩ := Kd.V_slice HO307.out
         (first | subst eo46 | (injection eo46 with f1_ f2_ f3_; have f4_ := f1_.symm; have f5_ := f3_.symm; clear f1_ f2_ f3_; subst f4_; subst f5_))
         refine hK.out _ _ ⟨(blk_cell BK291.out 0).trans rfl, (blk_cell BK291.out 1).trans rfl, (blk_cell BK292.out 0).trans rfl, (blk_cell BK292.out 1).trans rfl⟩ (fun hHeld => ?_)
         clear hK K
         refine norm_ (a' := ?_) ?_ ?_
         rotate_left
         ·
          show Act.put _ (some 18) _ = _
          simp only [Act.put, List.setIfInBounds_toArray, List.set_cons_zero, List.set_cons_succ, i64_w, i32_w]
          rfl
         refine last_ (i := 4) (N := none) #[true, true, true, true, true, false] rfl rfl (by kernel_rfl) (by decide) (fun K hK => ?_)
         have hs41 : w39.cell? ⟨gb291, 0, none⟩ = some (.slice A0_0 l0_0.length c0_0) := (blk_cell BK291.out 0).trans rfl
         have hfs41 := blk_frozen BK291.out 0
         have hns41_1 := NB292_291.out
         have hns41_2 := NB293_291.out
         have hms41_1 := NB291_292.out
         have hms41_2 := NB291_293.out
         have hs43 : w39.cell? ⟨gb291, 1, none⟩ = some (.slice A0_1 l0_1.length c0_1) := (blk_cell BK291.out 1).trans rfl
         have hfs43 := blk_frozen BK291.out 1
         have hns43_1 := NB292_291.out
         have hns43_2 := NB293_291.out
         have hms43_1 := NB291_292.out
         have hms43_2 := NB291_293.out
         refine skip_ (w1 := ?_) (by rfl) rfl ?_ ?_
         rotate_left
         ·
          go_simp
          rfl
         refine hK.out _ _ ?_
         clear hK K
         refine last_ (i := 5) (N := none) #[true, true, true, true, true, true] rfl rfl (by kernel_rfl) (by decide) (fun K hK => ?_)
         have hs45 : w39.cell? ⟨gb292, 0, none⟩ = some (.slice A1_0 l1_0.length c1_0) := (blk_cell BK292.out 0).trans rfl
         have hfs45 := blk_frozen BK292.out 0
         have hns45_0 := NB291_292.out
         have hns45_2 := NB293_292.out
         have hms45_0 := NB292_291.out
         have hms45_2 := NB292_293.out
         have hs47 : w39.cell? ⟨gb292, 1, none⟩ = some (.slice A1_1 l1_1.length c1_1) := (blk_cell BK292.out 1).trans rfl
         have hfs47 := blk_frozen BK292.out 1
         have hns47_0 := NB291_292.out
         have hns47_2 := NB293_292.out
         have hms47_0 := NB292_291.out
         have hms47_2 := NB292_293.out
         refine skip_ (w1 := ?_) (by rfl) rfl ?_ ?_
         rotate_left
         ·
          go_simp
          rfl
         refine hK.out _ _ ?_
         clear hK K
         refine done_ (by kernel_rfl) ?_
         have hnb48 := NB291_292.out
         have hnc48 := NB292_291.out
         have hnb49 := NB291_293.out
         have hnc49 := NB293_291.out
         have hcz50_0 : w39.cell? ⟨gb291, 0, none⟩ = some (.slice A0_0 l0_0.length c0_0) := (blk_cell BK291.out 0).trans rfl
         have hcz50_1 : w39.cell? ⟨gb291, 1, none⟩ = some (.slice A0_1 l0_1.length c0_1) := (blk_cell BK291.out 1).trans rfl
         have hfz50_0 := blk_frozen BK291.out 0
         have hfz50_1 := blk_frozen BK291.out 1
         have hnb51 := NB292_293.out
         have hnc51 := NB293_292.out
         have hcz52_0 : w39.cell? ⟨gb292, 0, none⟩ = some (.slice A1_0 l1_0.length c1_0) := (blk_cell BK292.out 0).trans rfl
         have hcz52_1 : w39.cell? ⟨gb292, 1, none⟩ = some (.slice A1_1 l1_1.length c1_1) := (blk_cell BK292.out 1).trans rfl
         have hfz52_0 := blk_frozen BK292.out 0
         have hfz52_1 := blk_frozen BK292.out 1
         try go_wp2
         have n0_ : Aside0 (Kd.V (Kd.int .i64) 3 ((((w39.setCell ⟨gb291, 0, none⟩ (.slice Ao40 t296.length co40)).setCell ⟨gb291, 1, none⟩ (.slice Ao42 t299.length co42)).setCell ⟨gb292, 0, none⟩ (.slice Ao44 t302.length co44)).setCell ⟨gb292, 1, none⟩ (.slice Ao46 t305.length co46)) w.heap.size (fun k_ => k_ ≠ gb291 ∧ k_ ≠ gb292 ∧ k_ ≠ gb293) (.slice Ao40 t296.length co40) t296) := ⟨by refine VU ?_; exact Kd.V_mono (Kd.V_far (p := ⟨gb292, 1, none⟩) (Kd.V_far (p := ⟨gb292, 0, none⟩) (Kd.V_far (p := ⟨gb291, 1, none⟩) (Kd.V_far (p := ⟨gb291, 0, none⟩) (Kd.V_mono (Kd.V_mono HO298.out (fun k_ hk => (⟨hk, hk.1⟩ : _ ∧ k_ ≠ gb291))) (fun k_ hk => (⟨hk, hk.1.2.1⟩ : _ ∧ k_ ≠ gb292))) (fun _ hk => hk.1.2) (.slice Ao40 t296.length co40)) (fun _ hk => hk.1.2) (.slice Ao42 t299.length co42)) (fun _ hk => hk.2) (.slice Ao44 t302.length co44)) (fun _ hk => hk.2) (.slice Ao46 t305.length co46)) (fun _ hk => ⟨hk.1.1.1, ⟨hk.1.1.2.1, hk.1.1.2.2⟩⟩)⟩
         have n1_ : Aside0 (Kd.V (Kd.int .i64) 3 ((((w39.setCell ⟨gb291, 0, none⟩ (.slice Ao40 t296.length co40)).setCell ⟨gb291, 1, none⟩ (.slice Ao42 t299.length co42)).setCell ⟨gb292, 0, none⟩ (.slice Ao44 t302.length co44)).setCell ⟨gb292, 1, none⟩ (.slice Ao46 t305.length co46)) w.heap.size (fun k_ => k_ ≠ gb291 ∧ k_ ≠ gb292 ∧ k_ ≠ gb293) (.slice Ao42 t299.length co42) t299) := ⟨by refine VU ?_; exact Kd.V_mono (Kd.V_far (p := ⟨gb292, 1, none⟩) (Kd.V_far (p := ⟨gb292, 0, none⟩) (Kd.V_far (p := ⟨gb291, 1, none⟩) (Kd.V_far (p := ⟨gb291, 0, none⟩) (Kd.V_mono (Kd.V_mono HO301.out (fun k_ hk => (⟨hk, hk.1⟩ : _ ∧ k_ ≠ gb291))) (fun k_ hk => (⟨hk, hk.1.2.1⟩ : _ ∧ k_ ≠ gb292))) (fun _ hk => hk.1.2) (.slice Ao40 t296.length co40)) (fun _ hk => hk.1.2) (.slice Ao42 t299.length co42)) (fun _ hk => hk.2) (.slice Ao44 t302.length co44)) (fun _ hk => hk.2) (.slice Ao46 t305.length co46)) (fun _ hk => ⟨hk.1.1.1, ⟨hk.1.1.2.1, hk.1.1.2.2⟩⟩)⟩
         have n2_ : Aside0 (Kd.V (Kd.int .i64) 3 ((((w39.setCell ⟨gb291, 0, none⟩ (.slice Ao40 t296.length co40)).setCell ⟨gb291, 1, none⟩ (.slice Ao42 t299.length co42)).setCell ⟨gb292, 0, none⟩ (.slice Ao44 t302.length co44)).setCell ⟨gb292, 1, none⟩ (.slice Ao46 t305.length co46)) w.heap.size (fun k_ => k_ ≠ gb291 ∧ k_ ≠ gb292 ∧ k_ ≠ gb293) (.slice Ao44 t302.length co44) t302) := ⟨by refine VU ?_; exact Kd.V_mono (Kd.V_far (p := ⟨gb292, 1, none⟩) (Kd.V_far (p := ⟨gb292, 0, none⟩) (Kd.V_far (p := ⟨gb291, 1, none⟩) (Kd.V_far (p := ⟨gb291, 0, none⟩) (Kd.V_mono (Kd.V_mono HO304.out (fun k_ hk => (⟨hk, hk.1⟩ : _ ∧ k_ ≠ gb291))) (fun k_ hk => (⟨hk, hk.1.2.1⟩ : _ ∧ k_ ≠ gb292))) (fun _ hk => hk.1.2) (.slice Ao40 t296.length co40)) (fun _ hk => hk.1.2) (.slice Ao42 t299.length co42)) (fun _ hk => hk.2) (.slice Ao44 t302.length co44)) (fun _ hk => hk.2) (.slice Ao46 t305.length co46)) (fun _ hk => ⟨hk.1.1.1, ⟨hk.1.1.2.1, hk.1.1.2.2⟩⟩)⟩
         have n3_ : Aside0 (Kd.V (Kd.int .i64) 3 ((((w39.setCell ⟨gb291, 0, none⟩ (.slice Ao40 t296.length co40)).setCell ⟨gb291, 1, none⟩ (.slice Ao42 t299.length co42)).setCell ⟨gb292, 0, none⟩ (.slice Ao44 t302.length co44)).setCell ⟨gb292, 1, none⟩ (.slice Ao46 t305.length co46)) w.heap.size (fun k_ => k_ ≠ gb291 ∧ k_ ≠ gb292 ∧ k_ ≠ gb293) (.slice Ao46 t305.length co46) t305) := ⟨by refine VU ?_; exact Kd.V_mono (Kd.V_far (p := ⟨gb292, 1, none⟩) (Kd.V_far (p := ⟨gb292, 0, none⟩) (Kd.V_far (p := ⟨gb291, 1, none⟩) (Kd.V_far (p := ⟨gb291, 0, none⟩) (Kd.V_mono (Kd.V_mono HO307.out (fun k_ hk => (⟨hk, hk.1⟩ : _ ∧ k_ ≠ gb291))) (fun k_ hk => (⟨hk, hk.1.2.1⟩ : _ ∧ k_ ≠ gb292))) (fun _ hk => hk.1.2) (.slice Ao40 t296.length co40)) (fun _ hk => hk.1.2) (.slice Ao42 t299.length co42)) (fun _ hk => hk.2) (.slice Ao44 t302.length co44)) (fun _ hk => hk.2) (.slice Ao46 t305.length co46)) (fun _ hk => ⟨hk.1.1.1, ⟨hk.1.1.2.1, hk.1.1.2.2⟩⟩)⟩
         have n4_ : Aside0 (((((w39.setCell ⟨gb291, 0, none⟩ (.slice Ao40 t296.length co40)).setCell ⟨gb291, 1, none⟩ (.slice Ao42 t299.length co42)).setCell ⟨gb292, 0, none⟩ (.slice Ao44 t302.length co44)).setCell ⟨gb292, 1, none⟩ (.slice Ao46 t305.length co46)).heap[gb291]? = some (.cells #[.slice Ao40 t296.length co40, .slice Ao42 t299.length co42] 26 (0, 0))) := ⟨by refine kU ?_; refine blk_far ?_ NB291_292.out _; refine kU ?_; refine blk_far ?_ NB291_292.out _; refine kU ?_; refine blk_put (cs := #[.slice Ao40 t296.length co40, .slice A0_1 l0_1.length c0_1]) ?_ 1 _ rfl; refine kU ?_; refine blk_put (cs := #[.slice A0_0 l0_0.length c0_0, .slice A0_1 l0_1.length c0_1]) ?_ 0 _ rfl; refine kU ?_; exact BK291.out⟩
         have n5_ : Aside0 (((((w39.setCell ⟨gb291, 0, none⟩ (.slice Ao40 t296.length co40)).setCell ⟨gb291, 1, none⟩ (.slice Ao42 t299.length co42)).setCell ⟨gb292, 0, none⟩ (.slice Ao44 t302.length co44)).setCell ⟨gb292, 1, none⟩ (.slice Ao46 t305.length co46)).heap[gb292]? = some (.cells #[.slice Ao44 t302.length co44, .slice Ao46 t305.length co46] 26 (0, 0))) := ⟨by refine kU ?_; refine blk_put (cs := #[.slice Ao44 t302.length co44, .slice A1_1 l1_1.length c1_1]) ?_ 1 _ rfl; refine kU ?_; refine blk_put (cs := #[.slice A1_0 l1_0.length c1_0, .slice A1_1 l1_1.length c1_1]) ?_ 0 _ rfl; refine kU ?_; refine blk_far ?_ NB292_291.out _; refine kU ?_; refine blk_far ?_ NB292_291.out _; refine kU ?_; exact BK292.out⟩
         have n6_ : Aside0 (((((w39.setCell ⟨gb291, 0, none⟩ (.slice Ao40 t296.length co40)).setCell ⟨gb291, 1, none⟩ (.slice Ao42 t299.length co42)).setCell ⟨gb292, 0, none⟩ (.slice Ao44 t302.length co44)).setCell ⟨gb292, 1, none⟩ (.slice Ao46 t305.length co46)).heap[gb293]? = some (.cells #[.slice none 0 0, .slice none 0 0] 26 (0, 0))) := ⟨by refine kU ?_; refine blk_far ?_ NB293_292.out _; refine kU ?_; refine blk_far ?_ NB293_292.out _; refine kU ?_; refine blk_far ?_ NB293_291.out _; refine kU ?_; refine blk_far ?_ NB293_291.out _; refine kU ?_; exact BK293.out⟩
         have n7_ : Aside0 (Below w.heap.size w ((((w39.setCell ⟨gb291, 0, none⟩ (.slice Ao40 t296.length co40)).setCell ⟨gb291, 1, none⟩ (.slice Ao42 t299.length co42)).setCell ⟨gb292, 0, none⟩ (.slice Ao44 t302.length co44)).setCell ⟨gb292, 1, none⟩ (.slice Ao46 t305.length co46))) := ⟨by exact bS3 HB.out GE291.out GE292.out GE293.out⟩
         (try clear HO298)
         (try clear HO301)
         (try clear HO304)
         (try clear HO307)
         (try clear BK291)
         (try clear BK292)
         (try clear BK293)
         (try clear HB)
         generalize ((((w39.setCell ⟨gb291, 0, none⟩ (.slice Ao40 t296.length co40)).setCell ⟨gb291, 1, none⟩ (.slice Ao42 t299.length co42)).setCell ⟨gb292, 0, none⟩ (.slice Ao44 t302.length co44)).setCell ⟨gb292, 1, none⟩ (.slice Ao46 t305.length co46)) = w53 at n0_ n1_ n2_ n3_ n4_ n5_ n6_ n7_ ⊢
         have HO298 := n0_
         have HO301 := n1_
         have HO304 := n2_
         have HO307 := n3_
         have BK291 := n4_
         have BK292 := n5_
         have BK293 := n6_
         have HB := n7_
         clear n0_ n1_ n2_ n3_ n4_ n5_ n6_ n7_
         replace HO298 := Aside0.mk (Kd.V_drew HO298.out)
         replace HO301 := Aside0.mk (Kd.V_drew HO301.out)
         replace HO304 := Aside0.mk (Kd.V_drew HO304.out)
         replace HO307 := Aside0.mk (Kd.V_drew HO307.out)
         replace BK291 := Aside0.mk (blk_drew BK291.out)
         replace BK292 := Aside0.mk (blk_drew BK292.out)
         replace BK293 := Aside0.mk (blk_drew BK293.out)
         replace HB := Aside0.mk (below_drew1 HB.out)
         have q55 : (1 : Int) ≤ ((t296.length : Int) : Int) := of_decide_eq_true (by first | (with_reducible assumption) | assumption)
         obtain ⟨i055, hi055, _, hsz55, _⟩ := info_parts info3
         have hroom55 : t296.length ≤ co40 := (Kd.V_reads' HO298.out).2.1
         have hC55 : Kd.F (Kd.int .i64) _ _ Ao40 t296.length t296 := (Kd.V_at (base := w.heap.size) HO298.out).2.2
         have hcut55 := cut_from (P := Try.prog) 22 3 .i64 Try.underlying22 hi055 1 hsz55 Ao40 t296.length co40 1 (by omega) q55
         have hr55 := Kd.F_cut (m := (1 : Int).toNat) (c := co40) hC55 (by omega) hroom55
         obtain ⟨A55, hA55⟩ : ∃ A1, A1 = (if co40 = (1 : Int).toNat then Ao40 else (Ao40 : Option Addr).map (·.add ((1 : Int).toNat * 1))) := ⟨_, rfl⟩
         obtain ⟨c55, hc55⟩ : ∃ c1, c1 = co40 - (1 : Int).toNat := ⟨_, rfl⟩
         have hy55 : y308.length = t296.length - (1 : Int).toNat := (by rw [Ny308.out, List.length_drop] <;> omega)
         rw [show (t296).drop (1 : Int).toNat = y308 from Ny308.out.symm] at hr55
         replace hr55 : Kd.F (Kd.int .i64) _ _ A55 y308.length y308 := (by rw [hA55]; exact hr55)
         rw [← hy55, ← hA55, ← hc55] at hcut55
         have HO312 := Aside0.mk (show Kd.V (Kd.int .i64) 3 _ w.heap.size _ (.slice A55 y308.length c55) y308 from Kd.V_mk (by rw [hy55, hc55]; exact Nat.sub_le_sub_right hroom55 _) hr55)
         have HC312 := Aside0.mk (show y308.length ≤ c55 from by rw [hy55, hc55]; exact Nat.sub_le_sub_right hroom55 _)
         clear hr55 hC55 hroom55 hi055 hsz55 hc55
         have KY55 := Aside0.mk hy55
         have KA55 := Aside0.mk hA55
         clear hy55 hA55
         replace q55 := eq_true q55
         have q56 : (1 : Int) ≤ ((t302.length : Int) : Int) := of_decide_eq_true (by first | (with_reducible assumption) | assumption)
         obtain ⟨i056, hi056, _, hsz56, _⟩ := info_parts info3
         have hroom56 : t302.length ≤ co44 := (Kd.V_reads' HO304.out).2.1
         have hC56 : Kd.F (Kd.int .i64) _ _ Ao44 t302.length t302 := (Kd.V_at (base := w.heap.size) HO304.out).2.2
         have hcut56 := cut_from (P := Try.prog) 22 3 .i64 Try.underlying22 hi056 1 hsz56 Ao44 t302.length co44 1 (by omega) q56
         have hr56 := Kd.F_cut (m := (1 : Int).toNat) (c := co44) hC56 (by omega) hroom56
         obtain ⟨A56, hA56⟩ : ∃ A1, A1 = (if co44 = (1 : Int).toNat then Ao44 else (Ao44 : Option Addr).map (·.add ((1 : Int).toNat * 1))) := ⟨_, rfl⟩
         obtain ⟨c56, hc56⟩ : ∃ c1, c1 = co44 - (1 : Int).toNat := ⟨_, rfl⟩
         have hy56 : y313.length = t302.length - (1 : Int).toNat := (by rw [Ny313.out, List.length_drop] <;> omega)
         rw [show (t302).drop (1 : Int).toNat = y313 from Ny313.out.symm] at hr56
         replace hr56 : Kd.F (Kd.int .i64) _ _ A56 y313.length y313 := (by rw [hA56]; exact hr56)
         rw [← hy56, ← hA56, ← hc56] at hcut56
         have HO317 := Aside0.mk (show Kd.V (Kd.int .i64) 3 _ w.heap.size _ (.slice A56 y313.length c56) y313 from Kd.V_mk (by rw [hy56, hc56]; exact Nat.sub_le_sub_right hroom56 _) hr56)
         have HC317 := Aside0.mk (show y313.length ≤ c56 from by rw [hy56, hc56]; exact Nat.sub_le_sub_right hroom56 _)
         clear hr56 hC56 hroom56 hi056 hsz56 hc56
         have KY56 := Aside0.mk hy56
         have KA56 := Aside0.mk hA56
         clear hy56 hA56
         replace q56 := eq_true q56
         refine start_ (n := 9) (S := fun w' => w'.cell? ⟨gb291, 0, none⟩ = some (.slice Ao40 t296.length co40) ∧ w'.cell? ⟨gb291, 1, none⟩ = some (.slice Ao42 t299.length co42) ∧ w'.cell? ⟨gb292, 0, none⟩ = some (.slice Ao44 t302.length co44) ∧ w'.cell? ⟨gb292, 1, none⟩ = some (.slice Ao46 t305.length co46)) (ds := []) #[false, false, false, false, false, false, false, false, false] (by kernel_rfl) rfl rfl ⟨(blk_cell BK291.out 0).trans rfl, (blk_cell BK291.out 1).trans rfl, (blk_cell BK292.out 0).trans rfl, (blk_cell BK292.out 1).trans rfl⟩ (fun hHeld => ?_); refine with_tabW impl_Join.tab6 impl_Join.bits6 (fun HT_ HW_ => ?_)
         generalize w53.drew = w54 at HO298 HO301 HO304 HO307 BK291 BK292 BK293 HB HO312 HO317 hHeld ⊢
         refine pure_ (i := 0) (N := some 29) (v := ?_) (a' := ?_) #[true, false, false, false, false, false, false, false, false] rfl rfl (any_of HT_.out (by kernel_rfl)) (fun _ _ _ h => h) (Or.inl ⟨by rfl, ?_⟩) ?_ ?_
         rotate_left
         ·
          intro w'
          go_simp
          with_reducible rfl
         rotate_left
         ·
          simp only [Act.put, List.setIfInBounds_toArray, List.set_cons_zero, List.set_cons_succ, i64_w, i32_w]
          rfl
         refine pure_ (i := 3) (N := some 32) (v := ?_) (a' := ?_) #[true, false, false, true, false, false, false, false, false] rfl rfl (any_of HT_.out (by kernel_rfl)) (fun _ _ _ h => h) (Or.inl ⟨by rfl, ?_⟩) ?_ ?_
         rotate_left
         ·
          intro w'
          go_simp
          with_reducible rfl
         rotate_left
         ·
          simp only [Act.put, List.setIfInBounds_toArray, List.set_cons_zero, List.set_cons_succ, i64_w, i32_w]
          rfl
         refine take_ (i := 1) (N := some 30) (v := ?_) (a' := ?_) #[true, true, false, true, false, false, false, false, false] rfl rfl (take_ofW HT_.out HW_.out (by kernel_rfl)) (fun _ _ _ h => h) (Or.inl ⟨by rfl, ?_⟩) hHeld ?_ ?_
         rotate_left
         ·
          rintro w' ⟨s0, s1, s2, s3⟩
          go_simp
          with_reducible rfl
         rotate_left
         ·
          simp only [Act.put, List.setIfInBounds_toArray, List.set_cons_zero, List.set_cons_succ, i64_w, i32_w]
          rfl
         refine pure_ (i := 2) (N := some 31) (v := ?_) (a' := ?_) #[true, true, true, true, false, false, false, false, false] rfl rfl (any_of HT_.out (by kernel_rfl)) (fun _ _ _ h => h) (Or.inl ⟨by rfl, ?_⟩) ?_ ?_
         rotate_left
         ·
          intro w'
          go_simp
          with_reducible rfl
         rotate_left
         ·
          simp only [Act.put, List.setIfInBounds_toArray, List.set_cons_zero, List.set_cons_succ, i64_w, i32_w]
          rfl
         refine take_ (i := 4) (N := some 33) (v := ?_) (a' := ?_) #[true, true, true, true, true, false, false, false, false] rfl rfl (take_ofW HT_.out HW_.out (by kernel_rfl)) (fun _ _ _ h => h) (Or.inl ⟨by rfl, ?_⟩) hHeld ?_ ?_
         rotate_left
         ·
          rintro w' ⟨s0, s1, s2, s3⟩
          go_simp
          with_reducible rfl
         rotate_left
         ·
          simp only [Act.put, List.setIfInBounds_toArray, List.set_cons_zero, List.set_cons_succ, i64_w, i32_w]
          rfl
         refine pure_ (i := 5) (N := some 34) (v := ?_) (a' := ?_) #[true, true, true, true, true, true, false, false, false] rfl rfl (any_of HT_.out (by kernel_rfl)) (fun _ _ _ h => h) (Or.inl ⟨by rfl, ?_⟩) ?_ ?_
         rotate_left
         ·
          intro w'
          go_simp
          with_reducible rfl
         rotate_left
         ·
          simp only [Act.put, List.setIfInBounds_toArray, List.set_cons_zero, List.set_cons_succ, i64_w, i32_w]
          rfl
         refine one_ (i := 6) (N := some 35) #[true, true, true, true, true, true, true, false, false] rfl rfl (one_of HT_.out (by kernel_rfl)) (by decide) (fun K hK => ?_)
         refine goes_ Try.func81 (by kernel_rfl) rfl #[.slice A55 y308.length c55, .slice A56 y313.length c56] (by rfl) rfl rfl lU ?_
         with_reducible refine (slices_Equal_int_int.calls kj2 _ _ y308 _ _ y313 true _ ?side1 ?side2 ?side3 ?side4 A30.out).mono ?_
         (case side1 => exact cU (Kd.V_reads' HO312.out).2.2)
         (case side2 => exact (Kd.V_reads' HO312.out).2.1)
         (case side3 => exact cU (Kd.V_reads' HO317.out).2.2)
         (case side4 => exact (Kd.V_reads' HO317.out).2.1)
         rintro e w' ⟨rfl, ⟨nd, rfl⟩⟩
         refine ⟨_, rfl, ?_⟩
         refine hK.out _ _ ⟨(blk_cell BK291.out 0).trans rfl, (blk_cell BK291.out 1).trans rfl, (blk_cell BK292.out 0).trans rfl, (blk_cell BK292.out 1).trans rfl⟩ (fun hHeld => ?_)
         clear hK K
         refine norm_ (a' := ?_) ?_ ?_
         rotate_left
         ·
          show Act.put _ (some 35) _ = _
          simp only [Act.put, List.setIfInBounds_toArray, List.set_cons_zero, List.set_cons_succ, i64_w, i32_w]
          rfl
         refine pure_ (i := 7) (N := some 36) (v := ?_) (a' := ?_) #[true, true, true, true, true, true, true, true, false] rfl rfl (any_of HT_.out (by kernel_rfl)) (fun _ _ _ h => h) (Or.inl ⟨by rfl, ?_⟩) ?_ ?_
         rotate_left
         ·
          intro w'
          go_simp
          with_reducible rfl
         rotate_left
         ·
          simp only [Act.put, List.setIfInBounds_toArray, List.set_cons_zero, List.set_cons_succ, i64_w, i32_w]
          rfl
         refine pure_ (i := 8) (N := some 28) (v := ?_) (a' := ?_) #[true, true, true, true, true, true, true, true, true] rfl rfl (any_of HT_.out (by kernel_rfl)) (fun _ _ _ h => h) (Or.inl ⟨by rfl, ?_⟩) ?_ ?_
         rotate_left
         ·
          intro w'
          go_simp
          with_reducible rfl
         rotate_left
         ·
          simp only [Act.put, List.setIfInBounds_toArray, List.set_cons_zero, List.set_cons_succ, i64_w, i32_w]
          rfl
         refine done_ (done_of HT_.out (by kernel_rfl)) ?_
         try go_wp2
         (try (rw [drewN_self w54]; generalize hq_ : World.drewN w54 _ = w54; have n0_ : Aside0 (Kd.V (Kd.int .i64) 3 w54 w.heap.size (fun k_ => k_ ≠ gb291 ∧ k_ ≠ gb292 ∧ k_ ≠ gb293) (.slice Ao40 t296.length co40) t296) := ⟨by rw [← hq_]; exact (VU HO298.out)⟩; have n1_ : Aside0 (Kd.V (Kd.int .i64) 3 w54 w.heap.size (fun k_ => k_ ≠ gb291 ∧ k_ ≠ gb292 ∧ k_ ≠ gb293) (.slice Ao42 t299.length co42) t299) := ⟨by rw [← hq_]; exact (VU HO301.out)⟩; have n2_ : Aside0 (Kd.V (Kd.int .i64) 3 w54 w.heap.size (fun k_ => k_ ≠ gb291 ∧ k_ ≠ gb292 ∧ k_ ≠ gb293) (.slice Ao44 t302.length co44) t302) := ⟨by rw [← hq_]; exact (VU HO304.out)⟩; have n3_ : Aside0 (Kd.V (Kd.int .i64) 3 w54 w.heap.size (fun k_ => k_ ≠ gb291 ∧ k_ ≠ gb292 ∧ k_ ≠ gb293) (.slice Ao46 t305.length co46) t305) := ⟨by rw [← hq_]; exact (VU HO307.out)⟩; have n4_ : Aside0 (Kd.V (Kd.int .i64) 3 w54 w.heap.size (fun k_ => k_ ≠ gb291 ∧ k_ ≠ gb292 ∧ k_ ≠ gb293) (.slice A55 y308.length c55) y308) := ⟨by rw [← hq_]; exact (VU HO312.out)⟩; have n5_ : Aside0 (Kd.V (Kd.int .i64) 3 w54 w.heap.size (fun k_ => k_ ≠ gb291 ∧ k_ ≠ gb292 ∧ k_ ≠ gb293) (.slice A56 y313.length c56) y313) := ⟨by rw [← hq_]; exact (VU HO317.out)⟩; have n6_ : Aside0 (w54.heap[gb291]? = some (.cells #[.slice Ao40 t296.length co40, .slice Ao42 t299.length co42] 26 (0, 0))) := ⟨by rw [← hq_]; exact (kU BK291.out)⟩; have n7_ : Aside0 (w54.heap[gb292]? = some (.cells #[.slice Ao44 t302.length co44, .slice Ao46 t305.length co46] 26 (0, 0))) := ⟨by rw [← hq_]; exact (kU BK292.out)⟩; have n8_ : Aside0 (w54.heap[gb293]? = some (.cells #[.slice none 0 0, .slice none 0 0] 26 (0, 0))) := ⟨by rw [← hq_]; exact (kU BK293.out)⟩; have n9_ : Aside0 (Below w.heap.size w w54) := ⟨by rw [← hq_]; exact (bS3 HB.out GE291.out GE292.out GE293.out)⟩; clear HO298 HO301 HO304 HO307 HO312 HO317 BK291 BK292 BK293 HB hq_; have HO298 := n0_; have HO301 := n1_; have HO304 := n2_; have HO307 := n3_; have HO312 := n4_; have HO317 := n5_; have BK291 := n6_; have BK292 := n7_; have BK293 := n8_; have HB := n9_; clear n0_ n1_ n2_ n3_ n4_ n5_ n6_ n7_ n8_ n9_))
         replace HO298 := Aside0.mk (Kd.V_drew HO298.out)
         replace HO301 := Aside0.mk (Kd.V_drew HO301.out)
         replace HO304 := Aside0.mk (Kd.V_drew HO304.out)
         replace HO307 := Aside0.mk (Kd.V_drew HO307.out)
         replace HO312 := Aside0.mk (Kd.V_drew HO312.out)
         replace HO317 := Aside0.mk (Kd.V_drew HO317.out)
         replace BK291 := Aside0.mk (blk_drew BK291.out)
         replace BK292 := Aside0.mk (blk_drew BK292.out)
         replace BK293 := Aside0.mk (blk_drew BK293.out)
         replace HB := Aside0.mk (below_drew1 HB.out)
         have q58 : (1 : Int) ≤ ((t296.length : Int) : Int) := of_decide_eq_true (by first | (with_reducible assumption) | assumption)
         obtain ⟨i058, hi058, _, hsz58, _⟩ := info_parts info3
         have hroom58 : t296.length ≤ co40 := (Kd.V_reads' HO298.out).2.1
         have hC58 : Kd.F (Kd.int .i64) _ _ Ao40 t296.length t296 := (Kd.V_at (base := w.heap.size) HO298.out).2.2
         (try clear hcut55)
         have hcut58 := cut_from (P := Try.prog) 22 3 .i64 Try.underlying22 hi058 1 hsz58 Ao40 t296.length co40 1 (by omega) q58
         have hr58 := Kd.F_cut (m := (1 : Int).toNat) (c := co40) hC58 (by omega) hroom58
         obtain ⟨A58, hA58⟩ : ∃ A1, A1 = (if co40 = (1 : Int).toNat then Ao40 else (Ao40 : Option Addr).map (·.add ((1 : Int).toNat * 1))) := ⟨_, rfl⟩
         obtain ⟨c58, hc58⟩ : ∃ c1, c1 = co40 - (1 : Int).toNat := ⟨_, rfl⟩
         have hy58 : y328.length = t296.length - (1 : Int).toNat := (by rw [Ny328.out, List.length_drop] <;> omega)
         rw [show (t296).drop (1 : Int).toNat = y328 from Ny328.out.symm] at hr58
         replace hr58 : Kd.F (Kd.int .i64) _ _ A58 y328.length y328 := (by rw [hA58]; exact hr58)
         rw [← hy58, ← hA58, ← hc58] at hcut58
         have HO332 := Aside0.mk (show Kd.V (Kd.int .i64) 3 _ w.heap.size _ (.slice A58 y328.length c58) y328 from Kd.V_mk (by rw [hy58, hc58]; exact Nat.sub_le_sub_right hroom58 _) hr58)
         have HC332 := Aside0.mk (show y328.length ≤ c58 from by rw [hy58, hc58]; exact Nat.sub_le_sub_right hroom58 _)
         clear hr58 hC58 hroom58 hi058 hsz58 hc58
         have KY58 := Aside0.mk hy58
         have KA58 := Aside0.mk hA58
         clear hy58 hA58
         replace q58 := eq_true q58
         refine start_ (n := 13) (S := fun w' => w'.cell? ⟨gb291, 0, none⟩ = some (.slice Ao40 t296.length co40) ∧ w'.cell? ⟨gb291, 1, none⟩ = some (.slice Ao42 t299.length co42) ∧ w'.cell? ⟨gb292, 0, none⟩ = some (.slice Ao44 t302.length co44) ∧ w'.cell? ⟨gb292, 1, none⟩ = some (.slice Ao46 t305.length co46)) (ds := []) #[false, false, false, false, false, false, false, false, false, false, false, false, false] (by kernel_rfl) rfl rfl ⟨(blk_cell BK291.out 0).trans rfl, (blk_cell BK291.out 1).trans rfl, (blk_cell BK292.out 0).trans rfl, (blk_cell BK292.out 1).trans rfl⟩ (fun hHeld => ?_); refine with_tabW impl_Join.tab8 impl_Join.bits8 (fun HT_ HW_ => ?_)
         generalize w54.drew = w57 at HO298 HO301 HO304 HO307 HO312 HO317 BK291 BK292 BK293 HB HO332 hHeld ⊢
         refine pure_ (i := 5) (N := some 43) (v := ?_) (a' := ?_) #[false, false, false, false, false, true, false, false, false, false, false, false, false] rfl rfl (any_of HT_.out (by kernel_rfl)) (fun _ _ _ h => h) (Or.inl ⟨by rfl, ?_⟩) ?_ ?_
         rotate_left
         ·
          intro w'
          go_simp
          with_reducible rfl
         rotate_left
         ·
          simp only [Act.put, List.setIfInBounds_toArray, List.set_cons_zero, List.set_cons_succ, i64_w, i32_w]
          rfl
         refine take_ (i := 0) (N := some 38) (v := ?_) (a' := ?_) #[true, false, false, false, false, true, false, false, false, false, false, false, false] rfl rfl (take_ofW HT_.out HW_.out (by kernel_rfl)) (fun _ _ _ h => h) (Or.inl ⟨by rfl, ?_⟩) hHeld ?_ ?_
         rotate_left
         ·
          rintro w' ⟨s0, s1, s2, s3⟩
          go_simp
          with_reducible rfl
         rotate_left
         ·
          simp only [Act.put, List.setIfInBounds_toArray, List.set_cons_zero, List.set_cons_succ, i64_w, i32_w]
          rfl
         refine take_ (i := 2) (N := some 40) (v := ?_) (a' := ?_) #[true, false, true, false, false, true, false, false, false, false, false, false, false] rfl rfl (take_ofW HT_.out HW_.out (by kernel_rfl)) (fun _ _ _ h => h) (Or.inl ⟨by rfl, ?_⟩) hHeld ?_ ?_
         rotate_left
         ·
          rintro w' ⟨s0, s1, s2, s3⟩
          go_simp
          with_reducible rfl
         rotate_left
         ·
          simp only [Act.put, List.setIfInBounds_toArray, List.set_cons_zero, List.set_cons_succ, i64_w, i32_w]
          rfl
         refine take_ (i := 6) (N := some 44) (v := ?_) (a' := ?_) #[true, false, true, false, false, true, true, false, false, false, false, false, false] rfl rfl (take_ofW HT_.out HW_.out (by kernel_rfl)) (fun _ _ _ h => h) (Or.inl ⟨by rfl, ?_⟩) hHeld ?_ ?_
         rotate_left
         ·
          rintro w' ⟨s0, s1, s2, s3⟩
          go_simp
          with_reducible rfl
         rotate_left
         ·
          simp only [Act.put, List.setIfInBounds_toArray, List.set_cons_zero, List.set_cons_succ, i64_w, i32_w]
          rfl
         refine pure_ (i := 7) (N := some 45) (v := ?_) (a' := ?_) #[true, false, true, false, false, true, true, true, false, false, false, false, false] rfl rfl (any_of HT_.out (by kernel_rfl)) (fun _ _ _ h => h) (Or.inl ⟨by rfl, ?_⟩) ?_ ?_
         rotate_left
         ·
          intro w'
          go_simp
          with_reducible rfl
         rotate_left
         ·
          simp only [Act.put, List.setIfInBounds_toArray, List.set_cons_zero, List.set_cons_succ, i64_w, i32_w]
          rfl
         refine one_ (i := 1) (N := some 39) #[true, true, true, false, false, true, true, true, false, false, false, false, false] rfl rfl (one_of HT_.out (by kernel_rfl)) (by decide) (fun K hK => ?_)
         refine goes_ Try.func32 (by kernel_rfl) rfl #[.agg #[.slice Ao40 t296.length co40, .slice Ao42 t299.length co42]] (by rfl) rfl rfl lU ?_
         with_reducible refine (impl_Rows.calls kj2 _ _ t296 _ _ t299 t319 _ ?side1 ?side2 ?side3 ?side4 A32.out).mono ?_
         (case side1 => exact cU (Kd.V_reads' HO298.out).2.2)
         (case side2 => exact (Kd.V_reads' HO298.out).2.1)
         (case side3 => exact cU (Kd.V_reads' HO301.out).2.2)
         (case side4 => exact (Kd.V_reads' HO301.out).2.1)
         rintro e w59 ⟨v320, rfl, ho0, hb⟩
         refine ⟨_, rfl, ?_⟩
         replace HO298 := Aside0.mk (Kd.V_elder' (VU HO298.out) (Kd.R_base (Kd.S_R ho0)) hb)
         replace HO301 := Aside0.mk (Kd.V_elder' (VU HO301.out) (Kd.R_base (Kd.S_R ho0)) hb)
         replace HO304 := Aside0.mk (Kd.V_elder' (VU HO304.out) (Kd.R_base (Kd.S_R ho0)) hb)
         replace HO307 := Aside0.mk (Kd.V_elder' (VU HO307.out) (Kd.R_base (Kd.S_R ho0)) hb)
         replace HO312 := Aside0.mk (Kd.V_elder' (VU HO312.out) (Kd.R_base (Kd.S_R ho0)) hb)
         replace HO317 := Aside0.mk (Kd.V_elder' (VU HO317.out) (Kd.R_base (Kd.S_R ho0)) hb)
         replace HO332 := Aside0.mk (Kd.V_elder' (VU HO332.out) (Kd.R_base (Kd.S_R ho0)) hb)
         have HO321 := Aside0.mk (Kd.N_lower (Kd.N_mono (ok' := fun k_ => k_ ≠ gb291 ∧ k_ ≠ gb292 ∧ k_ ≠ gb293) (Kd.S_N (Kd.S_bound ho0)) (fun k_ hk_ => ⟨(Kd.freshB (g := gb291) (o := .cells #[.slice Ao40 t296.length co40, .slice Ao42 t299.length co42] 26 (0, 0)) (kU BK291.out) k_ hk_.2.1), (Kd.freshB (g := gb292) (o := .cells #[.slice Ao44 t302.length co44, .slice Ao46 t305.length co46] 26 (0, 0)) (kU BK292.out) k_ hk_.2.1), (Kd.freshB (g := gb293) (o := .cells #[.slice none 0 0, .slice none 0 0] 26 (0, 0)) (kU BK293.out) k_ hk_.2.1)⟩)) (below_size (bS3 HB.out GE291.out GE292.out GE293.out)))
         replace BK291 := Aside0.mk (kB BK291.out hb)
         replace BK292 := Aside0.mk (kB BK292.out hb)
         replace BK293 := Aside0.mk (kB BK293.out hb)
         replace HB := Aside0.mk (below_step (bS3 HB.out GE291.out GE292.out GE293.out) hb)
         (try clear hb)
         (try clear hb2)
         (try clear hk)
         (try clear hi)
         (try clear ho0)
         refine hK.out _ _ ⟨(blk_cell BK291.out 0).trans rfl, (blk_cell BK291.out 1).trans rfl, (blk_cell BK292.out 0).trans rfl, (blk_cell BK292.out 1).trans rfl⟩ (fun hHeld => ?_)
         clear hK K
         refine norm_ (a' := ?_) ?_ ?_
         rotate_left
         ·
          show Act.put _ (some 39) _ = _
          simp only [Act.put, List.setIfInBounds_toArray, List.set_cons_zero, List.set_cons_succ, i64_w, i32_w]
          rfl
         refine one_ (i := 3) (N := some 41) #[true, true, true, true, false, true, true, true, false, false, false, false, false] rfl rfl (one_of HT_.out (by kernel_rfl)) (by decide) (fun K hK => ?_)
         refine goes_ Try.func32 (by kernel_rfl) rfl #[.agg #[.slice Ao44 t302.length co44, .slice Ao46 t305.length co46]] (by rfl) rfl rfl lU ?_
         with_reducible refine (impl_Rows.calls kj2 _ _ t302 _ _ t305 t322 _ ?side1 ?side2 ?side3 ?side4 A33.out).mono ?_
         (case side1 => exact cU (Kd.V_reads' HO304.out).2.2)
         (case side2 => exact (Kd.V_reads' HO304.out).2.1)
         (case side3 => exact cU (Kd.V_reads' HO307.out).2.2)
         (case side4 => exact (Kd.V_reads' HO307.out).2.1)
         rintro e w60 ⟨v323, rfl, ho0, hb⟩
         refine ⟨_, rfl, ?_⟩
         replace HO298 := Aside0.mk (Kd.V_elder' (VU HO298.out) (Kd.R_base (Kd.S_R ho0)) hb)
         replace HO301 := Aside0.mk (Kd.V_elder' (VU HO301.out) (Kd.R_base (Kd.S_R ho0)) hb)
         replace HO304 := Aside0.mk (Kd.V_elder' (VU HO304.out) (Kd.R_base (Kd.S_R ho0)) hb)
         replace HO307 := Aside0.mk (Kd.V_elder' (VU HO307.out) (Kd.R_base (Kd.S_R ho0)) hb)
         replace HO312 := Aside0.mk (Kd.V_elder' (VU HO312.out) (Kd.R_base (Kd.S_R ho0)) hb)
         replace HO317 := Aside0.mk (Kd.V_elder' (VU HO317.out) (Kd.R_base (Kd.S_R ho0)) hb)
         replace HO332 := Aside0.mk (Kd.V_elder' (VU HO332.out) (Kd.R_base (Kd.S_R ho0)) hb)
         have HO324 := Aside0.mk (Kd.N_lower (Kd.N_mono (ok' := fun k_ => some k_ ≠ (v320 : Value).ownBlock ∧ k_ ≠ gb291 ∧ k_ ≠ gb292 ∧ k_ ≠ gb293) (Kd.S_N (Kd.S_bound ho0)) (fun k_ hk_ => ⟨(Kd.fresh' (Kd.N_lt (NU HO321.out)) k_ hk_.2.1), (Kd.freshB (g := gb291) (o := .cells #[.slice Ao40 t296.length co40, .slice Ao42 t299.length co42] 26 (0, 0)) (kU BK291.out) k_ hk_.2.1), (Kd.freshB (g := gb292) (o := .cells #[.slice Ao44 t302.length co44, .slice Ao46 t305.length co46] 26 (0, 0)) (kU BK292.out) k_ hk_.2.1), (Kd.freshB (g := gb293) (o := .cells #[.slice none 0 0, .slice none 0 0] 26 (0, 0)) (kU BK293.out) k_ hk_.2.1)⟩)) (below_size (bS3 HB.out GE291.out GE292.out GE293.out)))
         replace HO321 := Aside0.mk (Kd.N_elder' (NU HO321.out) (Kd.R_base (Kd.S_R ho0)) hb)
         replace BK291 := Aside0.mk (kB BK291.out hb)
         replace BK292 := Aside0.mk (kB BK292.out hb)
         replace BK293 := Aside0.mk (kB BK293.out hb)
         replace HB := Aside0.mk (below_step (bS3 HB.out GE291.out GE292.out GE293.out) hb)
         (try clear hb)
         (try clear hb2)
         (try clear hk)
         (try clear hi)
         (try clear ho0)
         obtain ⟨Ao62, co62, eo62⟩ := Kd.N_slice HO324.out
         (first | subst eo62 | (injection eo62 with f1_ f2_ f3_; have f4_ := f1_.symm; have f5_ := f3_.symm; clear f1_ f2_ f3_; subst f4_; subst f5_))
         refine hK.out _ _ ⟨(blk_cell BK291.out 0).trans rfl, (blk_cell BK291.out 1).trans rfl, (blk_cell BK292.out 0).trans rfl, (blk_cell BK292.out 1).trans rfl⟩ (fun hHeld => ?_)
         clear hK K
         refine norm_ (a' := ?_) ?_ ?_
         rotate_left
         ·
          show Act.put _ (some 41) _ = _
          simp only [Act.put, List.setIfInBounds_toArray, List.set_cons_zero, List.set_cons_succ, i64_w, i32_w]
          rfl
         refine one_ (i := 4) (N := some 42) #[true, true, true, true, true, true, true, true, false, false, false, false, false] rfl rfl (one_of HT_.out (by kernel_rfl)) (by decide) (fun K hK => ?_)
         refine Kd.N_append_rows_step k26 (w0 := w) w.heap.size (by rfl) (.tmp 39) (.tmp 41) 38 26 (.agg #[(.slice none 0 0), (.slice none 0 0)]) 48 rfl Try.underlying38 info26 rfl (by decide) (by omega) v320 t319 t322 _ _ _ (fun k_ => k_ ≠ gb291 ∧ k_ ≠ gb292 ∧ k_ ≠ gb293) (fun k_ => ((fun k_ => k_ ≠ gb291 ∧ k_ ≠ gb292 ∧ k_ ≠ gb293)) k_ ∧ some k_ ≠ (v320 : Value).ownBlock) rfl rfl ?aO ?aR (fun _ hk => hk) ?aF ?aB ?aS ?aL ?_
         (case aR => exact (by skip; exact Kd.N_F (Kd.N_mono (ok' := (fun k_ => ((fun k_ => k_ ≠ gb291 ∧ k_ ≠ gb292 ∧ k_ ≠ gb293)) k_ ∧ some k_ ≠ (v320 : Value).ownBlock)) (HO324.out) (fun k_ hk => ⟨⟨hk.2.1, ⟨hk.2.2.1, hk.2.2.2⟩⟩, hk.1⟩))))
         (case aB => exact (bS3 HB.out GE291.out GE292.out GE293.out))
         (case aF => exact (fun k_ hk => ⟨Kd.freshB (g := gb291) (o := .cells #[.slice Ao40 t296.length co40, .slice Ao42 t299.length co42] 26 (0, 0)) (kU BK291.out) k_ hk, Kd.freshB (g := gb292) (o := .cells #[.slice Ao44 t302.length co44, .slice Ao46 t305.length co46] 26 (0, 0)) (kU BK292.out) k_ hk, Kd.freshB (g := gb293) (o := .cells #[.slice none 0 0, .slice none 0 0] 26 (0, 0)) (kU BK293.out) k_ hk⟩))
         (case aO => exact (by refine NU ?_; exact Kd.N_mono HO321.out (fun _ hk => ⟨hk.1.1, ⟨hk.1.2.1, hk.1.2.2⟩⟩)))
         (case aS => exact (below_size (bS3 HB.out GE291.out GE292.out GE293.out)))
         (case aL => have := LMc34.out; omega)
         intro v326 w61 ho hb hg hat
         rw [← Ny325.out] at ho
         have n0_ := Aside0.mk (blk_grown (g := gb291) (o := .cells #[.slice Ao40 t296.length co40, .slice Ao42 t299.length co42] 26 (0, 0)) (kU BK291.out) hg (Kd.N_away HO321.out (fun _ hk => hk.1.1)))
         have n1_ := Aside0.mk (blk_grown (g := gb292) (o := .cells #[.slice Ao44 t302.length co44, .slice Ao46 t305.length co46] 26 (0, 0)) (kU BK292.out) hg (Kd.N_away HO321.out (fun _ hk => hk.1.2.1)))
         have n2_ := Aside0.mk (blk_grown (g := gb293) (o := .cells #[.slice none 0 0, .slice none 0 0] 26 (0, 0)) (kU BK293.out) hg (Kd.N_away HO321.out (fun _ hk => hk.1.2.2)))
         have n3_ := Aside0.mk (Kd.V_afterv (ok := (fun k_ => some k_ ≠ (.slice Ao62 t322.length co62 : Value).ownBlock ∧ k_ ≠ gb291 ∧ k_ ≠ gb292 ∧ k_ ≠ gb293)) (by refine VU ?_; exact Kd.V_mono HO298.out (fun _ hk => ⟨⟨hk.2, ⟨hk.1.1.1, ⟨hk.1.1.2.1, hk.1.1.2.2⟩⟩⟩, hk.1.2⟩)) hg hat)
         have n4_ := Aside0.mk (Kd.V_afterv (ok := (fun k_ => some k_ ≠ (.slice Ao62 t322.length co62 : Value).ownBlock ∧ k_ ≠ gb291 ∧ k_ ≠ gb292 ∧ k_ ≠ gb293)) (by refine VU ?_; exact Kd.V_mono HO301.out (fun _ hk => ⟨⟨hk.2, ⟨hk.1.1.1, ⟨hk.1.1.2.1, hk.1.1.2.2⟩⟩⟩, hk.1.2⟩)) hg hat)
         have n5_ := Aside0.mk (Kd.V_afterv (ok := (fun k_ => some k_ ≠ (.slice Ao62 t322.length co62 : Value).ownBlock ∧ k_ ≠ gb291 ∧ k_ ≠ gb292 ∧ k_ ≠ gb293)) (by refine VU ?_; exact Kd.V_mono HO304.out (fun _ hk => ⟨⟨hk.2, ⟨hk.1.1.1, ⟨hk.1.1.2.1, hk.1.1.2.2⟩⟩⟩, hk.1.2⟩)) hg hat)
         have n6_ := Aside0.mk (Kd.V_afterv (ok := (fun k_ => some k_ ≠ (.slice Ao62 t322.length co62 : Value).ownBlock ∧ k_ ≠ gb291 ∧ k_ ≠ gb292 ∧ k_ ≠ gb293)) (by refine VU ?_; exact Kd.V_mono HO307.out (fun _ hk => ⟨⟨hk.2, ⟨hk.1.1.1, ⟨hk.1.1.2.1, hk.1.1.2.2⟩⟩⟩, hk.1.2⟩)) hg hat)
         have n7_ := Aside0.mk (Kd.V_afterv (ok := (fun k_ => some k_ ≠ (.slice Ao62 t322.length co62 : Value).ownBlock ∧ k_ ≠ gb291 ∧ k_ ≠ gb292 ∧ k_ ≠ gb293)) (by refine VU ?_; exact Kd.V_mono HO312.out (fun _ hk => ⟨⟨hk.2, ⟨hk.1.1.1, ⟨hk.1.1.2.1, hk.1.1.2.2⟩⟩⟩, hk.1.2⟩)) hg hat)
         have n8_ := Aside0.mk (Kd.V_afterv (ok := (fun k_ => some k_ ≠ (.slice Ao62 t322.length co62 : Value).ownBlock ∧ k_ ≠ gb291 ∧ k_ ≠ gb292 ∧ k_ ≠ gb293)) (by refine VU ?_; exact Kd.V_mono HO317.out (fun _ hk => ⟨⟨hk.2, ⟨hk.1.1.1, ⟨hk.1.1.2.1, hk.1.1.2.2⟩⟩⟩, hk.1.2⟩)) hg hat)
         have n9_ := Aside0.mk (Kd.V_afterv (ok := (fun k_ => some k_ ≠ (.slice Ao62 t322.length co62 : Value).ownBlock ∧ k_ ≠ gb291 ∧ k_ ≠ gb292 ∧ k_ ≠ gb293)) (by refine VU ?_; exact Kd.V_mono HO332.out (fun _ hk => ⟨⟨hk.2, ⟨hk.1.1.1, ⟨hk.1.1.2.1, hk.1.1.2.2⟩⟩⟩, hk.1.2⟩)) hg hat)
         have n10_ := Aside0.mk (Kd.N_afterv (ok := (fun k_ => k_ ≠ gb291 ∧ k_ ≠ gb292 ∧ k_ ≠ gb293)) (by refine NU ?_; exact Kd.N_mono HO324.out (fun _ hk => ⟨⟨hk.2.1, ⟨hk.2.2.1, hk.2.2.2⟩⟩, hk.1⟩)) hg hat)
         have n11_ := Aside0.mk (hb)
         have n12_ := Aside0.mk (ho)
         clear BK291 BK292 BK293 HO298 HO301 HO304 HO307 HO312 HO317 HO332 HO324 HB HO321
         have BK291 := n0_
         have BK292 := n1_
         have BK293 := n2_
         have HO298 := n3_
         have HO301 := n4_
         have HO304 := n5_
         have HO307 := n6_
         have HO312 := n7_
         have HO317 := n8_
         have HO332 := n9_
         have HO324 := n10_
         have HB := n11_
         have HO327 := n12_
         clear n0_ n1_ n2_ n3_ n4_ n5_ n6_ n7_ n8_ n9_ n10_ n11_ n12_
         clear ho hb hg hat
         obtain ⟨Ao63, co63, eo63⟩ := Kd.N_slice HO327.out
         (first | subst eo63 | (injection eo63 with f1_ f2_ f3_; have f4_ := f1_.symm; have f5_ := f3_.symm; clear f1_ f2_ f3_; subst f4_; subst f5_))
         refine hK.out _ _ ⟨(blk_cell BK291.out 0).trans rfl, (blk_cell BK291.out 1).trans rfl, (blk_cell BK292.out 0).trans rfl, (blk_cell BK292.out 1).trans rfl⟩ (fun hHeld => ?_)
         clear hK K
         refine norm_ (a' := ?_) ?_ ?_
         rotate_left
         ·
          show Act.put _ (some 42) _ = _
          simp only [Act.put, List.setIfInBounds_toArray, List.set_cons_zero, List.set_cons_succ, i64_w, i32_w]
          rfl
         refine one_ (i := 8) (N := some 46) #[true, true, true, true, true, true, true, true, true, false, false, false, false] rfl rfl (one_of HT_.out (by kernel_rfl)) (by decide) (fun K hK => ?_)
         refine goes_ Try.func78 (by kernel_rfl) rfl #[.slice Ao63 y325.length co63, .slice A58 y328.length c58] (by rfl) rfl rfl lU ?_
         with_reducible refine (impl_joined.calls kj2 _ _ y325 _ _ y328 t333 t336 t339 _ ?side1 ?side2 ?side3 ?side4 A36.out).mono ?_
         (case side1 => exact cU (Kd.N_reads' HO327.out).2.2)
         (case side2 => exact (Kd.N_reads' HO327.out).2.1)
         (case side3 => exact cU (Kd.V_reads' HO332.out).2.2)
         (case side4 => exact (Kd.V_reads' HO332.out).2.1)
         rintro e w64 ⟨v334, v337, rfl, ho0, ho1, hb⟩
         refine ⟨_, rfl, ?_⟩
         replace HO298 := Aside0.mk (Kd.V_mono (Kd.V_told (Kd.V_told (Kd.V_old (VU HO298.out) hb) (Kd.R_base ho0)) (Kd.R_base ho1)) (fun _ h_ => h_.1))
         replace HO301 := Aside0.mk (Kd.V_mono (Kd.V_told (Kd.V_told (Kd.V_old (VU HO301.out) hb) (Kd.R_base ho0)) (Kd.R_base ho1)) (fun _ h_ => h_.1))
         replace HO304 := Aside0.mk (Kd.V_mono (Kd.V_told (Kd.V_told (Kd.V_old (VU HO304.out) hb) (Kd.R_base ho0)) (Kd.R_base ho1)) (fun _ h_ => h_.1))
         replace HO307 := Aside0.mk (Kd.V_mono (Kd.V_told (Kd.V_told (Kd.V_old (VU HO307.out) hb) (Kd.R_base ho0)) (Kd.R_base ho1)) (fun _ h_ => h_.1))
         replace HO312 := Aside0.mk (Kd.V_mono (Kd.V_told (Kd.V_told (Kd.V_old (VU HO312.out) hb) (Kd.R_base ho0)) (Kd.R_base ho1)) (fun _ h_ => h_.1))
         replace HO317 := Aside0.mk (Kd.V_mono (Kd.V_told (Kd.V_told (Kd.V_old (VU HO317.out) hb) (Kd.R_base ho0)) (Kd.R_base ho1)) (fun _ h_ => h_.1))
         replace HO332 := Aside0.mk (Kd.V_mono (Kd.V_told (Kd.V_told (Kd.V_old (VU HO332.out) hb) (Kd.R_base ho0)) (Kd.R_base ho1)) (fun _ h_ => h_.1))
         replace HO324 := Aside0.mk (Kd.N_mono (Kd.N_told (Kd.N_told (Kd.N_old (NU HO324.out) hb) (Kd.R_base ho0)) (Kd.R_base ho1)) (fun _ h_ => h_.1))
         replace HO327 := Aside0.mk (Kd.N_mono (Kd.N_told (Kd.N_told (Kd.N_old (NU HO327.out) hb) (Kd.R_base ho0)) (Kd.R_base ho1)) (fun _ h_ => h_.1))
         have HO335 := Aside0.mk (Kd.R_lower ho0 (below_size (bS3 HB.out GE291.out GE292.out GE293.out)))
         have HO338 := Aside0.mk (Kd.R_lower ho1 (below_size (bS3 HB.out GE291.out GE292.out GE293.out)))
         replace BK291 := Aside0.mk (kB BK291.out hb)
         replace BK292 := Aside0.mk (kB BK292.out hb)
         replace BK293 := Aside0.mk (kB BK293.out hb)
         replace HB := Aside0.mk (below_step (bS3 HB.out GE291.out GE292.out GE293.out) hb)
         (try clear hb)
         (try clear hb2)
         (try clear hk)
         (try clear hi)
         (try clear ho0)
         (try clear ho1)
         obtain ⟨Ao65, co65, eo65⟩ := Kd.R_slice HO335.out
         (first | subst eo65 | (injection eo65 with f1_ f2_ f3_; have f4_ := f1_.symm; have f5_ := f3_.symm; clear f1_ f2_ f3_; subst f4_; subst f5_))
         obtain ⟨Ao67, co67, eo67⟩ := Kd.R_slice HO338.out
         (first | subst eo67 | (injection eo67 with f1_ f2_ f3_; have f4_ := f1_.symm; have f5_ := f3_.symm; clear f1_ f2_ f3_; subst f4_; subst f5_))
         refine hK.out _ _ ⟨(blk_cell BK291.out 0).trans rfl, (blk_cell BK291.out 1).trans rfl, (blk_cell BK292.out 0).trans rfl, (blk_cell BK292.out 1).trans rfl⟩ (fun hHeld => ?_)
         clear hK K
         refine norm_ (a' := ?_) ?_ ?_
         rotate_left
         ·
          show Act.put _ (some 46) _ = _
          simp only [Act.put, List.setIfInBounds_toArray, List.set_cons_zero, List.set_cons_succ, i64_w, i32_w]
          rfl
         refine pure_ (i := 9) (N := some 47) (v := ?_) (a' := ?_) #[true, true, true, true, true, true, true, true, true, true, false, false, false] rfl rfl (any_of HT_.out (by kernel_rfl)) (fun _ _ _ h => h) (Or.inl ⟨by rfl, ?_⟩) ?_ ?_
         rotate_left
         ·
          intro w'
          go_simp
          with_reducible rfl
         rotate_left
         ·
          simp only [Act.put, List.setIfInBounds_toArray, List.set_cons_zero, List.set_cons_succ, i64_w, i32_w]
          rfl
         refine pure_ (i := 10) (N := some 48) (v := ?_) (a' := ?_) #[true, true, true, true, true, true, true, true, true, true, true, false, false] rfl rfl (any_of HT_.out (by kernel_rfl)) (fun _ _ _ h => h) (Or.inl ⟨by rfl, ?_⟩) ?_ ?_
         rotate_left
         ·
          intro w'
          go_simp
          with_reducible rfl
         rotate_left
         ·
          simp only [Act.put, List.setIfInBounds_toArray, List.set_cons_zero, List.set_cons_succ, i64_w, i32_w]
          rfl
         refine one_ (i := 11) (N := none) #[true, true, true, true, true, true, true, true, true, true, true, true, false] rfl rfl (one_of HT_.out (by kernel_rfl)) (by decide) (fun K hK => ?_)
         have hs66 : w64.cell? ⟨gb293, 0, none⟩ = some (.slice none 0 0) := (blk_cell BK293.out 0).trans rfl
         have hfs66 := blk_frozen BK293.out 0
         have hns66_0 := NB291_293.out
         have hns66_1 := NB292_293.out
         have hms66_0 := NB293_291.out
         have hms66_1 := NB293_292.out
         have hs68 : w64.cell? ⟨gb293, 1, none⟩ = some (.slice none 0 0) := (blk_cell BK293.out 1).trans rfl
         have hfs68 := blk_frozen BK293.out 1
         have hns68_0 := NB291_293.out
         have hns68_1 := NB292_293.out
         have hms68_0 := NB293_291.out
         have hms68_1 := NB293_292.out
         refine skip_ (w1 := ?_) (by rfl) rfl ?_ ?_
         rotate_left
         ·
          go_simp
          rfl
         refine hK.out _ _ ⟨((cell_far (p := ⟨gb293, _, none⟩) NB291_293.out _).trans (((cell_far (p := ⟨gb293, _, none⟩) NB291_293.out _).trans (hHeld.1)))), ((cell_far (p := ⟨gb293, _, none⟩) NB291_293.out _).trans (((cell_far (p := ⟨gb293, _, none⟩) NB291_293.out _).trans (hHeld.2.1)))), ((cell_far (p := ⟨gb293, _, none⟩) NB292_293.out _).trans (((cell_far (p := ⟨gb293, _, none⟩) NB292_293.out _).trans (hHeld.2.2.1)))), ((cell_far (p := ⟨gb293, _, none⟩) NB292_293.out _).trans (((cell_far (p := ⟨gb293, _, none⟩) NB292_293.out _).trans (hHeld.2.2.2))))⟩ (fun hHeld => ?_)
         clear hK K
         refine pure_ (i := 12) (N := some 5) (v := ?_) (a' := ?_) #[true, true, true, true, true, true, true, true, true, true, true, true, true] rfl rfl (any_of HT_.out (by kernel_rfl)) (fun _ _ _ h => h) (Or.inl ⟨by rfl, ?_⟩) ?_ ?_
         rotate_left
         ·
          intro w'
          go_simp
          with_reducible rfl
         rotate_left
         ·
          simp only [Act.put, List.setIfInBounds_toArray, List.set_cons_zero, List.set_cons_succ, i64_w, i32_w]
          rfl
         refine done_ (done_of HT_.out (by kernel_rfl)) ?_
         try go_wp2
         refine bodyPost_ret (results_ct rfl _ _ gb293 26 #[.slice Ao65 t333.length co65, .slice Ao67 t336.length co67] (0, 0) _ rfl (by refine kU ?_; refine blk_put (cs := #[.slice Ao65 t333.length co65, .slice none 0 0]) ?_ 1 _ rfl; refine kU ?_; refine blk_put (cs := #[.slice none 0 0, .slice none 0 0]) ?_ 0 _ rfl; refine kU ?_; exact BK293.out) Try.underlying26 rfl (by kernel_rfl)) rfl ?_
         exact ⟨_, _, by first | rfl | (simp [errW_none, errW_some] <;> rfl) | (simp [*, errW_none, errW_some] <;> rfl), by refine RU ?_; exact Kd.R_mono (Kd.R_far (p := ⟨gb293, 1, none⟩) (Kd.R_far (p := ⟨gb293, 0, none⟩) (Kd.R_types HO335.out BK293.out (by decide)) (fun _ hk => hk.2) (.slice Ao65 t333.length co65)) (fun _ hk => hk.2) (.slice Ao67 t336.length co67)) (fun _ hk => hk.1), by refine RU ?_; exact Kd.R_mono (Kd.R_far (p := ⟨gb293, 1, none⟩) (Kd.R_far (p := ⟨gb293, 0, none⟩) (Kd.R_types HO338.out BK293.out (by decide)) (fun _ hk => hk.2) (.slice Ao65 t333.length co65)) (fun _ hk => hk.2) (.slice Ao67 t336.length co67)) (fun _ hk => hk.1), by exact bS3 HB.out GE291.out GE292.out GE293.out⟩
        ·
         rw [if_neg c34] at H
         exact absurd H (by simp)
       ·
        replace c31 := Bool.eq_false_iff.mpr c31
        subst c31
        have H1 : (some (([] : List Int), ([] : List Int), 3)) = some (r1, r2, r3) := by rw [if_neg (show ¬ (false = true) by decide)] at H; exact H
        clear H
        have H := H1
        clear H1
        simp only [Option.some.injEq, Prod.mk.injEq] at H
        obtain ⟨rfl, rfl, rfl⟩ := H
        try go_wp2
        replace BK291 := Aside0.mk (blk_drew BK291.out)
        replace BK292 := Aside0.mk (blk_drew BK292.out)
        replace BK293 := Aside0.mk (blk_drew BK293.out)
        replace HB := Aside0.mk (below_drew1 HB.out)
        refine start_ (n := 6) (S := fun w' => w'.cell? ⟨gb291, 0, none⟩ = some (.slice A0_0 l0_0.length c0_0) ∧ w'.cell? ⟨gb291, 1, none⟩ = some (.slice A0_1 l0_1.length c0_1) ∧ w'.cell? ⟨gb292, 0, none⟩ = some (.slice A1_0 l1_0.length c1_0) ∧ w'.cell? ⟨gb292, 1, none⟩ = some (.slice A1_1 l1_1.length c1_1)) (ds := [4, 5]) #[false, false, false, false, false, false] (by kernel_rfl) rfl rfl ⟨(blk_cell BK291.out 0).trans rfl, (blk_cell BK291.out 1).trans rfl, (blk_cell BK292.out 0).trans rfl, (blk_cell BK292.out 1).trans rfl⟩ (fun hHeld => ?_)
        generalize wc.drew = w69 at BK291 BK292 BK293 HB hHeld ⊢
        refine take_ (i := 0) (N := some 15) (v := ?_) (a' := ?_) #[true, false, false, false, false, false] rfl rfl (by kernel_rfl) (fun _ _ _ h => h) (Or.inl ⟨by rfl, ?_⟩) hHeld ?_ ?_
        rotate_left
        ·
         rintro w' ⟨s0, s1, s2, s3⟩
         go_simp
         with_reducible rfl
        rotate_left
        ·
         simp only [Act.put, List.setIfInBounds_toArray, List.set_cons_zero, List.set_cons_succ, i64_w, i32_w]
         rfl
        refine take_ (i := 2) (N := some 17) (v := ?_) (a' := ?_) #[true, false, true, false, false, false] rfl rfl (by kernel_rfl) (fun _ _ _ h => h) (Or.inl ⟨by rfl, ?_⟩) hHeld ?_ ?_
        rotate_left
        ·
         rintro w' ⟨s0, s1, s2, s3⟩
         go_simp
         with_reducible rfl
        rotate_left
        ·
         simp only [Act.put, List.setIfInBounds_toArray, List.set_cons_zero, List.set_cons_succ, i64_w, i32_w]
         rfl
        refine one_ (i := 1) (N := some 16) #[true, true, true, false, false, false] rfl rfl (by kernel_rfl) (by decide) (fun K hK => ?_)
        refine goes_ Try.func103 (by kernel_rfl) rfl #[.agg #[.slice A0_0 l0_0.length c0_0, .slice A0_1 l0_1.length c0_1]] (by rfl) rfl rfl lU ?_
        with_reducible refine (impl_asRows.calls (fun k_ => k_ < w.heap.size) _ _ l0_0 (fun k_ => k_ < w.heap.size) _ _ l0_1 t296 t299 _ ?side1 ?side2 A25.out).mono ?_
        (case side1 => exact Kd.V_mk HC0_0.out (Kd.F_below (Kd.C_F (Kd.heap_int .i64) HR0_0.out) (bS3 HB.out GE291.out GE292.out GE293.out)))
        (case side2 => exact Kd.V_mk HC0_1.out (Kd.F_below (Kd.C_F (Kd.heap_int .i64) HR0_1.out) (bS3 HB.out GE291.out GE292.out GE293.out)))
        rintro e w70 ⟨v297, v300, rfl, ho0, ho1, hb⟩
        refine ⟨_, rfl, ?_⟩
        have HO298 := Aside0.mk (Kd.V_lower (Kd.V_mono (ok' := fun k_ => k_ ≠ gb291 ∧ k_ ≠ gb292 ∧ k_ ≠ gb293) ho0 (fun k_ hk_ => ⟨Or.elim hk_ (fun hs_ => Or.elim hs_ (fun hs_ => fun e_ => Nat.not_le.2 hs_ (by rw [e_]; exact GW291.out)) (fun hs_ => fun e_ => Nat.not_le.2 hs_ (by rw [e_]; exact GW291.out))) (fun hn_ => (Kd.freshB (g := gb291) (o := .cells #[.slice A0_0 l0_0.length c0_0, .slice A0_1 l0_1.length c0_1] 26 (0, 0)) (kU BK291.out) k_ hn_)), Or.elim hk_ (fun hs_ => Or.elim hs_ (fun hs_ => fun e_ => Nat.not_le.2 hs_ (by rw [e_]; exact GW292.out)) (fun hs_ => fun e_ => Nat.not_le.2 hs_ (by rw [e_]; exact GW292.out))) (fun hn_ => (Kd.freshB (g := gb292) (o := .cells #[.slice A1_0 l1_0.length c1_0, .slice A1_1 l1_1.length c1_1] 26 (0, 0)) (kU BK292.out) k_ hn_)), Or.elim hk_ (fun hs_ => Or.elim hs_ (fun hs_ => fun e_ => Nat.not_le.2 hs_ (by rw [e_]; exact GW293.out)) (fun hs_ => fun e_ => Nat.not_le.2 hs_ (by rw [e_]; exact GW293.out))) (fun hn_ => (Kd.freshB (g := gb293) (o := .cells #[.slice none 0 0, .slice none 0 0] 26 (0, 0)) (kU BK293.out) k_ hn_))⟩)) (below_size (bS3 HB.out GE291.out GE292.out GE293.out)))
        have HO301 := Aside0.mk (Kd.V_lower (Kd.V_mono (ok' := fun k_ => k_ ≠ gb291 ∧ k_ ≠ gb292 ∧ k_ ≠ gb293) ho1 (fun k_ hk_ => ⟨Or.elim hk_ (fun hs_ => Or.elim hs_ (fun hs_ => fun e_ => Nat.not_le.2 hs_ (by rw [e_]; exact GW291.out)) (fun hs_ => fun e_ => Nat.not_le.2 hs_ (by rw [e_]; exact GW291.out))) (fun hn_ => (Kd.freshB (g := gb291) (o := .cells #[.slice A0_0 l0_0.length c0_0, .slice A0_1 l0_1.length c0_1] 26 (0, 0)) (kU BK291.out) k_ hn_)), Or.elim hk_ (fun hs_ => Or.elim hs_ (fun hs_ => fun e_ => Nat.not_le.2 hs_ (by rw [e_]; exact GW292.out)) (fun hs_ => fun e_ => Nat.not_le.2 hs_ (by rw [e_]; exact GW292.out))) (fun hn_ => (Kd.freshB (g := gb292) (o := .cells #[.slice A1_0 l1_0.length c1_0, .slice A1_1 l1_1.length c1_1] 26 (0, 0)) (kU BK292.out) k_ hn_)), Or.elim hk_ (fun hs_ => Or.elim hs_ (fun hs_ => fun e_ => Nat.not_le.2 hs_ (by rw [e_]; exact GW293.out)) (fun hs_ => fun e_ => Nat.not_le.2 hs_ (by rw [e_]; exact GW293.out))) (fun hn_ => (Kd.freshB (g := gb293) (o := .cells #[.slice none 0 0, .slice none 0 0] 26 (0, 0)) (kU BK293.out) k_ hn_))⟩)) (below_size (bS3 HB.out GE291.out GE292.out GE293.out)))
        replace BK291 := Aside0.mk (kB BK291.out hb)
        replace BK292 := Aside0.mk (kB BK292.out hb)
        replace BK293 := Aside0.mk (kB BK293.out hb)
        replace HB := Aside0.mk (below_step (bS3 HB.out GE291.out GE292.out GE293.out) hb)
        (try clear hb)
        (try clear hb2)
        (try clear hk)
        (try clear hi)
        (try clear ho0)
        (try clear ho1)
        refine hK.out _ _ ⟨(blk_cell BK291.out 0).trans rfl, (blk_cell BK291.out 1).trans rfl, (blk_cell BK292.out 0).trans rfl, (blk_cell BK292.out 1).trans rfl⟩ (fun hHeld => ?_)
        clear hK K
        refine norm_ (a' := ?_) ?_ ?_
        rotate_left
        ·
         show Act.put _ (some 16) _ = _
         simp only [Act.put, List.setIfInBounds_toArray, List.set_cons_zero, List.set_cons_succ, i64_w, i32_w]
         rfl
        refine one_ (i := 3) (N := some 18) #[true, true, true, true, false, false] rfl rfl (by kernel_rfl) (by decide) (fun K hK => ?_)
        refine goes_ Try.func103 (by kernel_rfl) rfl #[.agg #[.slice A1_0 l1_0.length c1_0, .slice A1_1 l1_1.length c1_1]] (by rfl) rfl rfl lU ?_
        with_reducible refine (impl_asRows.calls (fun k_ => k_ < w.heap.size) _ _ l1_0 (fun k_ => k_ < w.heap.size) _ _ l1_1 t302 t305 _ ?side1 ?side2 A26.out).mono ?_
        (case side1 => exact Kd.V_mk HC1_0.out (Kd.F_below (Kd.C_F (Kd.heap_int .i64) HR1_0.out) (bS3 HB.out GE291.out GE292.out GE293.out)))
        (case side2 => exact Kd.V_mk HC1_1.out (Kd.F_below (Kd.C_F (Kd.heap_int .i64) HR1_1.out) (bS3 HB.out GE291.out GE292.out GE293.out)))
        rintro e w71 ⟨v303, v306, rfl, ho0, ho1, hb⟩
        refine ⟨_, rfl, ?_⟩
        replace HO298 := Aside0.mk (Kd.V_below (VU HO298.out) hb)
        replace HO301 := Aside0.mk (Kd.V_below (VU HO301.out) hb)
        have HO304 := Aside0.mk (Kd.V_lower (Kd.V_mono (ok' := fun k_ => k_ ≠ gb291 ∧ k_ ≠ gb292 ∧ k_ ≠ gb293) ho0 (fun k_ hk_ => ⟨Or.elim hk_ (fun hs_ => Or.elim hs_ (fun hs_ => fun e_ => Nat.not_le.2 hs_ (by rw [e_]; exact GW291.out)) (fun hs_ => fun e_ => Nat.not_le.2 hs_ (by rw [e_]; exact GW291.out))) (fun hn_ => (Kd.freshB (g := gb291) (o := .cells #[.slice A0_0 l0_0.length c0_0, .slice A0_1 l0_1.length c0_1] 26 (0, 0)) (kU BK291.out) k_ hn_)), Or.elim hk_ (fun hs_ => Or.elim hs_ (fun hs_ => fun e_ => Nat.not_le.2 hs_ (by rw [e_]; exact GW292.out)) (fun hs_ => fun e_ => Nat.not_le.2 hs_ (by rw [e_]; exact GW292.out))) (fun hn_ => (Kd.freshB (g := gb292) (o := .cells #[.slice A1_0 l1_0.length c1_0, .slice A1_1 l1_1.length c1_1] 26 (0, 0)) (kU BK292.out) k_ hn_)), Or.elim hk_ (fun hs_ => Or.elim hs_ (fun hs_ => fun e_ => Nat.not_le.2 hs_ (by rw [e_]; exact GW293.out)) (fun hs_ => fun e_ => Nat.not_le.2 hs_ (by rw [e_]; exact GW293.out))) (fun hn_ => (Kd.freshB (g := gb293) (o := .cells #[.slice none 0 0, .slice none 0 0] 26 (0, 0)) (kU BK293.out) k_ hn_))⟩)) (below_size (bS3 HB.out GE291.out GE292.out GE293.out)))
        have HO307 := Aside0.mk (Kd.V_lower (Kd.V_mono (ok' := fun k_ => k_ ≠ gb291 ∧ k_ ≠ gb292 ∧ k_ ≠ gb293) ho1 (fun k_ hk_ => ⟨Or.elim hk_ (fun hs_ => Or.elim hs_ (fun hs_ => fun e_ => Nat.not_le.2 hs_ (by rw [e_]; exact GW291.out)) (fun hs_ => fun e_ => Nat.not_le.2 hs_ (by rw [e_]; exact GW291.out))) (fun hn_ => (Kd.freshB (g := gb291) (o := .cells #[.slice A0_0 l0_0.length c0_0, .slice A0_1 l0_1.length c0_1] 26 (0, 0)) (kU BK291.out) k_ hn_)), Or.elim hk_ (fun hs_ => Or.elim hs_ (fun hs_ => fun e_ => Nat.not_le.2 hs_ (by rw [e_]; exact GW292.out)) (fun hs_ => fun e_ => Nat.not_le.2 hs_ (by rw [e_]; exact GW292.out))) (fun hn_ => (Kd.freshB (g := gb292) (o := .cells #[.slice A1_0 l1_0.length c1_0, .slice A1_1 l1_1.length c1_1] 26 (0, 0)) (kU BK292.out) k_ hn_)), Or.elim hk_ (fun hs_ => Or.elim hs_ (fun hs_ => fun e_ => Nat.not_le.2 hs_ (by rw [e_]; exact GW293.out)) (fun hs_ => fun e_ => Nat.not_le.2 hs_ (by rw [e_]; exact GW293.out))) (fun hn_ => (Kd.freshB (g := gb293) (o := .cells #[.slice none 0 0, .slice none 0 0] 26 (0, 0)) (kU BK293.out) k_ hn_))⟩)) (below_size (bS3 HB.out GE291.out GE292.out GE293.out)))
        replace BK291 := Aside0.mk (kB BK291.out hb)
        replace BK292 := Aside0.mk (kB BK292.out hb)
        replace BK293 := Aside0.mk (kB BK293.out hb)
        replace HB := Aside0.mk (below_step (bS3 HB.out GE291.out GE292.out GE293.out) hb)
        (try clear hb)
        (try clear hb2)
        (try clear hk)
        (try clear hi)
        (try clear ho0)
        (try clear ho1)
        obtain ⟨Ao72, co72, eo72⟩ := Kd.V_slice HO298.out
        (first | subst eo72 | (injection eo72 with f1_ f2_ f3_; have f4_ := f1_.symm; have f5_ := f3_.symm; clear f1_ f2_ f3_; subst f4_; subst f5_))
        obtain ⟨Ao74, co74, eo74⟩ := Kd.V_slice HO301.out
        (first | subst eo74 | (injection eo74 with f1_ f2_ f3_; have f4_ := f1_.symm; have f5_ := f3_.symm; clear f1_ f2_ f3_; subst f4_; subst f5_))
        obtain ⟨Ao76, co76, eo76⟩ := Kd.V_slice HO304.out
        (first | subst eo76 | (injection eo76 with f1_ f2_ f3_; have f4_ := f1_.symm; have f5_ := f3_.symm; clear f1_ f2_ f3_; subst f4_; subst f5_))
        obtain ⟨Ao78, co78, eo78⟩ := Kd.V_slice HO307.out
        (first | subst eo78 | (injection eo78 with f1_ f2_ f3_; have f4_ := f1_.symm; have f5_ := f3_.symm; clear f1_ f2_ f3_; subst f4_; subst f5_))
        refine hK.out _ _ ⟨(blk_cell BK291.out 0).trans rfl, (blk_cell BK291.out 1).trans rfl, (blk_cell BK292.out 0).trans rfl, (blk_cell BK292.out 1).trans rfl⟩ (fun hHeld => ?_)
        clear hK K
        refine norm_ (a' := ?_) ?_ ?_
        rotate_left
        ·
         show Act.put _ (some 18) _ = _
         simp only [Act.put, List.setIfInBounds_toArray, List.set_cons_zero, List.set_cons_succ, i64_w, i32_w]
         rfl
        refine last_ (i := 4) (N := none) #[true, true, true, true, true, false] rfl rfl (by kernel_rfl) (by decide) (fun K hK => ?_)
        have hs73 : w71.cell? ⟨gb291, 0, none⟩ = some (.slice A0_0 l0_0.length c0_0) := (blk_cell BK291.out 0).trans rfl
        have hfs73 := blk_frozen BK291.out 0
        have hns73_1 := NB292_291.out
        have hns73_2 := NB293_291.out
        have hms73_1 := NB291_292.out
        have hms73_2 := NB291_293.out
        have hs75 : w71.cell? ⟨gb291, 1, none⟩ = some (.slice A0_1 l0_1.length c0_1) := (blk_cell BK291.out 1).trans rfl
        have hfs75 := blk_frozen BK291.out 1
        have hns75_1 := NB292_291.out
        have hns75_2 := NB293_291.out
        have hms75_1 := NB291_292.out
        have hms75_2 := NB291_293.out
        refine skip_ (w1 := ?_) (by rfl) rfl ?_ ?_
        rotate_left
        ·
         go_simp
         rfl
        refine hK.out _ _ ?_
        clear hK K
        refine last_ (i := 5) (N := none) #[true, true, true, true, true, true] rfl rfl (by kernel_rfl) (by decide) (fun K hK => ?_)
        have hs77 : w71.cell? ⟨gb292, 0, none⟩ = some (.slice A1_0 l1_0.length c1_0) := (blk_cell BK292.out 0).trans rfl
        have hfs77 := blk_frozen BK292.out 0
        have hns77_0 := NB291_292.out
        have hns77_2 := NB293_292.out
        have hms77_0 := NB292_291.out
        have hms77_2 := NB292_293.out
        have hs79 : w71.cell? ⟨gb292, 1, none⟩ = some (.slice A1_1 l1_1.length c1_1) := (blk_cell BK292.out 1).trans rfl
        have hfs79 := blk_frozen BK292.out 1
        have hns79_0 := NB291_292.out
        have hns79_2 := NB293_292.out
        have hms79_0 := NB292_291.out
        have hms79_2 := NB292_293.out
        refine skip_ (w1 := ?_) (by rfl) rfl ?_ ?_
        rotate_left
        ·
         go_simp
         rfl
        refine hK.out _ _ ?_
        clear hK K
        refine done_ (by kernel_rfl) ?_
        have hnb80 := NB291_292.out
        have hnc80 := NB292_291.out
        have hnb81 := NB291_293.out
        have hnc81 := NB293_291.out
        have hcz82_0 : w71.cell? ⟨gb291, 0, none⟩ = some (.slice A0_0 l0_0.length c0_0) := (blk_cell BK291.out 0).trans rfl
        have hcz82_1 : w71.cell? ⟨gb291, 1, none⟩ = some (.slice A0_1 l0_1.length c0_1) := (blk_cell BK291.out 1).trans rfl
        have hfz82_0 := blk_frozen BK291.out 0
        have hfz82_1 := blk_frozen BK291.out 1
        have hnb83 := NB292_293.out
        have hnc83 := NB293_292.out
        have hcz84_0 : w71.cell? ⟨gb292, 0, none⟩ = some (.slice A1_0 l1_0.length c1_0) := (blk_cell BK292.out 0).trans rfl
        have hcz84_1 : w71.cell? ⟨gb292, 1, none⟩ = some (.slice A1_1 l1_1.length c1_1) := (blk_cell BK292.out 1).trans rfl
        have hfz84_0 := blk_frozen BK292.out 0
        have hfz84_1 := blk_frozen BK292.out 1
        try go_wp2
        have n0_ : Aside0 (Kd.V (Kd.int .i64) 3 ((((w71.setCell ⟨gb291, 0, none⟩ (.slice Ao72 t296.length co72)).setCell ⟨gb291, 1, none⟩ (.slice Ao74 t299.length co74)).setCell ⟨gb292, 0, none⟩ (.slice Ao76 t302.length co76)).setCell ⟨gb292, 1, none⟩ (.slice Ao78 t305.length co78)) w.heap.size (fun k_ => k_ ≠ gb291 ∧ k_ ≠ gb292 ∧ k_ ≠ gb293) (.slice Ao72 t296.length co72) t296) := ⟨by refine VU ?_; exact Kd.V_mono (Kd.V_far (p := ⟨gb292, 1, none⟩) (Kd.V_far (p := ⟨gb292, 0, none⟩) (Kd.V_far (p := ⟨gb291, 1, none⟩) (Kd.V_far (p := ⟨gb291, 0, none⟩) (Kd.V_mono (Kd.V_mono HO298.out (fun k_ hk => (⟨hk, hk.1⟩ : _ ∧ k_ ≠ gb291))) (fun k_ hk => (⟨hk, hk.1.2.1⟩ : _ ∧ k_ ≠ gb292))) (fun _ hk => hk.1.2) (.slice Ao72 t296.length co72)) (fun _ hk => hk.1.2) (.slice Ao74 t299.length co74)) (fun _ hk => hk.2) (.slice Ao76 t302.length co76)) (fun _ hk => hk.2) (.slice Ao78 t305.length co78)) (fun _ hk => ⟨hk.1.1.1, ⟨hk.1.1.2.1, hk.1.1.2.2⟩⟩)⟩
        have n1_ : Aside0 (Kd.V (Kd.int .i64) 3 ((((w71.setCell ⟨gb291, 0, none⟩ (.slice Ao72 t296.length co72)).setCell ⟨gb291, 1, none⟩ (.slice Ao74 t299.length co74)).setCell ⟨gb292, 0, none⟩ (.slice Ao76 t302.length co76)).setCell ⟨gb292, 1, none⟩ (.slice Ao78 t305.length co78)) w.heap.size (fun k_ => k_ ≠ gb291 ∧ k_ ≠ gb292 ∧ k_ ≠ gb293) (.slice Ao74 t299.length co74) t299) := ⟨by refine VU ?_; exact Kd.V_mono (Kd.V_far (p := ⟨gb292, 1, none⟩) (Kd.V_far (p := ⟨gb292, 0, none⟩) (Kd.V_far (p := ⟨gb291, 1, none⟩) (Kd.V_far (p := ⟨gb291, 0, none⟩) (Kd.V_mono (Kd.V_mono HO301.out (fun k_ hk => (⟨hk, hk.1⟩ : _ ∧ k_ ≠ gb291))) (fun k_ hk => (⟨hk, hk.1.2.1⟩ : _ ∧ k_ ≠ gb292))) (fun _ hk => hk.1.2) (.slice Ao72 t296.length co72)) (fun _ hk => hk.1.2) (.slice Ao74 t299.length co74)) (fun _ hk => hk.2) (.slice Ao76 t302.length co76)) (fun _ hk => hk.2) (.slice Ao78 t305.length co78)) (fun _ hk => ⟨hk.1.1.1, ⟨hk.1.1.2.1, hk.1.1.2.2⟩⟩)⟩
        have n2_ : Aside0 (Kd.V (Kd.int .i64) 3 ((((w71.setCell ⟨gb291, 0, none⟩ (.slice Ao72 t296.length co72)).setCell ⟨gb291, 1, none⟩ (.slice Ao74 t299.length co74)).setCell ⟨gb292, 0, none⟩ (.slice Ao76 t302.length co76)).setCell ⟨gb292, 1, none⟩ (.slice Ao78 t305.length co78)) w.heap.size (fun k_ => k_ ≠ gb291 ∧ k_ ≠ gb292 ∧ k_ ≠ gb293) (.slice Ao76 t302.length co76) t302) := ⟨by refine VU ?_; exact Kd.V_mono (Kd.V_far (p := ⟨gb292, 1, none⟩) (Kd.V_far (p := ⟨gb292, 0, none⟩) (Kd.V_far (p := ⟨gb291, 1, none⟩) (Kd.V_far (p := ⟨gb291, 0, none⟩) (Kd.V_mono (Kd.V_mono HO304.out (fun k_ hk => (⟨hk, hk.1⟩ : _ ∧ k_ ≠ gb291))) (fun k_ hk => (⟨hk, hk.1.2.1⟩ : _ ∧ k_ ≠ gb292))) (fun _ hk => hk.1.2) (.slice Ao72 t296.length co72)) (fun _ hk => hk.1.2) (.slice Ao74 t299.length co74)) (fun _ hk => hk.2) (.slice Ao76 t302.length co76)) (fun _ hk => hk.2) (.slice Ao78 t305.length co78)) (fun _ hk => ⟨hk.1.1.1, ⟨hk.1.1.2.1, hk.1.1.2.2⟩⟩)⟩
        have n3_ : Aside0 (Kd.V (Kd.int .i64) 3 ((((w71.setCell ⟨gb291, 0, none⟩ (.slice Ao72 t296.length co72)).setCell ⟨gb291, 1, none⟩ (.slice Ao74 t299.length co74)).setCell ⟨gb292, 0, none⟩ (.slice Ao76 t302.length co76)).setCell ⟨gb292, 1, none⟩ (.slice Ao78 t305.length co78)) w.heap.size (fun k_ => k_ ≠ gb291 ∧ k_ ≠ gb292 ∧ k_ ≠ gb293) (.slice Ao78 t305.length co78) t305) := ⟨by refine VU ?_; exact Kd.V_mono (Kd.V_far (p := ⟨gb292, 1, none⟩) (Kd.V_far (p := ⟨gb292, 0, none⟩) (Kd.V_far (p := ⟨gb291, 1, none⟩) (Kd.V_far (p := ⟨gb291, 0, none⟩) (Kd.V_mono (Kd.V_mono HO307.out (fun k_ hk => (⟨hk, hk.1⟩ : _ ∧ k_ ≠ gb291))) (fun k_ hk => (⟨hk, hk.1.2.1⟩ : _ ∧ k_ ≠ gb292))) (fun _ hk => hk.1.2) (.slice Ao72 t296.length co72)) (fun _ hk => hk.1.2) (.slice Ao74 t299.length co74)) (fun _ hk => hk.2) (.slice Ao76 t302.length co76)) (fun _ hk => hk.2) (.slice Ao78 t305.length co78)) (fun _ hk => ⟨hk.1.1.1, ⟨hk.1.1.2.1, hk.1.1.2.2⟩⟩)⟩
        have n4_ : Aside0 (((((w71.setCell ⟨gb291, 0, none⟩ (.slice Ao72 t296.length co72)).setCell ⟨gb291, 1, none⟩ (.slice Ao74 t299.length co74)).setCell ⟨gb292, 0, none⟩ (.slice Ao76 t302.length co76)).setCell ⟨gb292, 1, none⟩ (.slice Ao78 t305.length co78)).heap[gb291]? = some (.cells #[.slice Ao72 t296.length co72, .slice Ao74 t299.length co74] 26 (0, 0))) := ⟨by refine kU ?_; refine blk_far ?_ NB291_292.out _; refine kU ?_; refine blk_far ?_ NB291_292.out _; refine kU ?_; refine blk_put (cs := #[.slice Ao72 t296.length co72, .slice A0_1 l0_1.length c0_1]) ?_ 1 _ rfl; refine kU ?_; refine blk_put (cs := #[.slice A0_0 l0_0.length c0_0, .slice A0_1 l0_1.length c0_1]) ?_ 0 _ rfl; refine kU ?_; exact BK291.out⟩
        have n5_ : Aside0 (((((w71.setCell ⟨gb291, 0, none⟩ (.slice Ao72 t296.length co72)).setCell ⟨gb291, 1, none⟩ (.slice Ao74 t299.length co74)).setCell ⟨gb292, 0, none⟩ (.slice Ao76 t302.length co76)).setCell ⟨gb292, 1, none⟩ (.slice Ao78 t305.length co78)).heap[gb292]? = some (.cells #[.slice Ao76 t302.length co76, .slice Ao78 t305.length co78] 26 (0, 0))) := ⟨by refine kU ?_; refine blk_put (cs := #[.slice Ao76 t302.length co76, .slice A1_1 l1_1.length c1_1]) ?_ 1 _ rfl; refine kU ?_; refine blk_put (cs := #[.slice A1_0 l1_0.length c1_0, .slice A1_1 l1_1.length c1_1]) ?_ 0 _ rfl; refine kU ?_; refine blk_far ?_ NB292_291.out _; refine kU ?_; refine blk_far ?_ NB292_291.out _; refine kU ?_; exact BK292.out⟩
        have n6_ : Aside0 (((((w71.setCell ⟨gb291, 0, none⟩ (.slice Ao72 t296.length co72)).setCell ⟨gb291, 1, none⟩ (.slice Ao74 t299.length co74)).setCell ⟨gb292, 0, none⟩ (.slice Ao76 t302.length co76)).setCell ⟨gb292, 1, none⟩ (.slice Ao78 t305.length co78)).heap[gb293]? = some (.cells #[.slice none 0 0, .slice none 0 0] 26 (0, 0))) := ⟨by refine kU ?_; refine blk_far ?_ NB293_292.out _; refine kU ?_; refine blk_far ?_ NB293_292.out _; refine kU ?_; refine blk_far ?_ NB293_291.out _; refine kU ?_; refine blk_far ?_ NB293_291.out _; refine kU ?_; exact BK293.out⟩
        have n7_ : Aside0 (Below w.heap.size w ((((w71.setCell ⟨gb291, 0, none⟩ (.slice Ao72 t296.length co72)).setCell ⟨gb291, 1, none⟩ (.slice Ao74 t299.length co74)).setCell ⟨gb292, 0, none⟩ (.slice Ao76 t302.length co76)).setCell ⟨gb292, 1, none⟩ (.slice Ao78 t305.length co78))) := ⟨by exact bS3 HB.out GE291.out GE292.out GE293.out⟩
        (try clear HO298)
        (try clear HO301)
        (try clear HO304)
        (try clear HO307)
        (try clear BK291)
        (try clear BK292)
        (try clear BK293)
        (try clear HB)
        generalize ((((w71.setCell ⟨gb291, 0, none⟩ (.slice Ao72 t296.length co72)).setCell ⟨gb291, 1, none⟩ (.slice Ao74 t299.length co74)).setCell ⟨gb292, 0, none⟩ (.slice Ao76 t302.length co76)).setCell ⟨gb292, 1, none⟩ (.slice Ao78 t305.length co78)) = w85 at n0_ n1_ n2_ n3_ n4_ n5_ n6_ n7_ ⊢
        have HO298 := n0_
        have HO301 := n1_
        have HO304 := n2_
        have HO307 := n3_
        have BK291 := n4_
        have BK292 := n5_
        have BK293 := n6_
        have HB := n7_
        clear n0_ n1_ n2_ n3_ n4_ n5_ n6_ n7_
        replace HO298 := Aside0.mk (Kd.V_drew HO298.out)
        replace HO301 := Aside0.mk (Kd.V_drew HO301.out)
        replace HO304 := Aside0.mk (Kd.V_drew HO304.out)
        replace HO307 := Aside0.mk (Kd.V_drew HO307.out)
        replace BK291 := Aside0.mk (blk_drew BK291.out)
        replace BK292 := Aside0.mk (blk_drew BK292.out)
        replace BK293 := Aside0.mk (blk_drew BK293.out)
        replace HB := Aside0.mk (below_drew1 HB.out)
        have q87 : (1 : Int) ≤ ((t296.length : Int) : Int) := of_decide_eq_true (by first | (with_reducible assumption) | assumption)
        obtain ⟨i087, hi087, _, hsz87, _⟩ := info_parts info3
        have hroom87 : t296.length ≤ co72 := (Kd.V_reads' HO298.out).2.1
        have hC87 : Kd.F (Kd.int .i64) _ _ Ao72 t296.length t296 := (Kd.V_at (base := w.heap.size) HO298.out).2.2
        have hcut87 := cut_from (P := Try.prog) 22 3 .i64 Try.underlying22 hi087 1 hsz87 Ao72 t296.length co72 1 (by omega) q87
        have hr87 := Kd.F_cut (m := (1 : Int).toNat) (c := co72) hC87 (by omega) hroom87
        obtain ⟨A87, hA87⟩ : ∃ A1, A1 = (if co72 = (1 : Int).toNat then Ao72 else (Ao72 : Option Addr).map (·.add ((1 : Int).toNat * 1))) := ⟨_, rfl⟩
        obtain ⟨c87, hc87⟩ : ∃ c1, c1 = co72 - (1 : Int).toNat := ⟨_, rfl⟩
        have hy87 : y308.length = t296.length - (1 : Int).toNat := (by rw [Ny308.out, List.length_drop] <;> omega)
        rw [show (t296).drop (1 : Int).toNat = y308 from Ny308.out.symm] at hr87
        replace hr87 : Kd.F (Kd.int .i64) _ _ A87 y308.length y308 := (by rw [hA87]; exact hr87)
        rw [← hy87, ← hA87, ← hc87] at hcut87
        have HO312 := Aside0.mk (show Kd.V (Kd.int .i64) 3 _ w.heap.size _ (.slice A87 y308.length c87) y308 from Kd.V_mk (by rw [hy87, hc87]; exact Nat.sub_le_sub_right hroom87 _) hr87)
        have HC312 := Aside0.mk (show y308.length ≤ c87 from by rw [hy87, hc87]; exact Nat.sub_le_sub_right hroom87 _)
        clear hr87 hC87 hroom87 hi087 hsz87 hc87
        have KY87 := Aside0.mk hy87
        have KA87 := Aside0.mk hA87
        clear hy87 hA87
        replace q87 := eq_true q87
        have q88 : (1 : Int) ≤ ((t302.length : Int) : Int) := of_decide_eq_true (by first | (with_reducible assumption) | assumption)
        obtain ⟨i088, hi088, _, hsz88, _⟩ := info_parts info3
        have hroom88 : t302.length ≤ co76 := (Kd.V_reads' HO304.out).2.1
        have hC88 : Kd.F (Kd.int .i64) _ _ Ao76 t302.length t302 := (Kd.V_at (base := w.heap.size) HO304.out).2.2
        have hcut88 := cut_from (P := Try.prog) 22 3 .i64 Try.underlying22 hi088 1 hsz88 Ao76 t302.length co76 1 (by omega) q88
        have hr88 := Kd.F_cut (m := (1 : Int).toNat) (c := co76) hC88 (by omega) hroom88
        obtain ⟨A88, hA88⟩ : ∃ A1, A1 = (if co76 = (1 : Int).toNat then Ao76 else (Ao76 : Option Addr).map (·.add ((1 : Int).toNat * 1))) := ⟨_, rfl⟩
        obtain ⟨c88, hc88⟩ : ∃ c1, c1 = co76 - (1 : Int).toNat := ⟨_, rfl⟩
        have hy88 : y313.length = t302.length - (1 : Int).toNat := (by rw [Ny313.out, List.length_drop] <;> omega)
        rw [show (t302).drop (1 : Int).toNat = y313 from Ny313.out.symm] at hr88
        replace hr88 : Kd.F (Kd.int .i64) _ _ A88 y313.length y313 := (by rw [hA88]; exact hr88)
        rw [← hy88, ← hA88, ← hc88] at hcut88
        have HO317 := Aside0.mk (show Kd.V (Kd.int .i64) 3 _ w.heap.size _ (.slice A88 y313.length c88) y313 from Kd.V_mk (by rw [hy88, hc88]; exact Nat.sub_le_sub_right hroom88 _) hr88)
        have HC317 := Aside0.mk (show y313.length ≤ c88 from by rw [hy88, hc88]; exact Nat.sub_le_sub_right hroom88 _)
        clear hr88 hC88 hroom88 hi088 hsz88 hc88
        have KY88 := Aside0.mk hy88
        have KA88 := Aside0.mk hA88
        clear hy88 hA88
        replace q88 := eq_true q88
        refine start_ (n := 9) (S := fun w' => w'.cell? ⟨gb291, 0, none⟩ = some (.slice Ao72 t296.length co72) ∧ w'.cell? ⟨gb291, 1, none⟩ = some (.slice Ao74 t299.length co74) ∧ w'.cell? ⟨gb292, 0, none⟩ = some (.slice Ao76 t302.length co76) ∧ w'.cell? ⟨gb292, 1, none⟩ = some (.slice Ao78 t305.length co78)) (ds := []) #[false, false, false, false, false, false, false, false, false] (by kernel_rfl) rfl rfl ⟨(blk_cell BK291.out 0).trans rfl, (blk_cell BK291.out 1).trans rfl, (blk_cell BK292.out 0).trans rfl, (blk_cell BK292.out 1).trans rfl⟩ (fun hHeld => ?_); refine with_tabW impl_Join.tab6 impl_Join.bits6 (fun HT_ HW_ => ?_)
        generalize w85.drew = w86 at HO298 HO301 HO304 HO307 BK291 BK292 BK293 HB HO312 HO317 hHeld ⊢
        refine pure_ (i := 0) (N := some 29) (v := ?_) (a' := ?_) #[true, false, false, false, false, false, false, false, false] rfl rfl (any_of HT_.out (by kernel_rfl)) (fun _ _ _ h => h) (Or.inl ⟨by rfl, ?_⟩) ?_ ?_
        rotate_left
        ·
         intro w'
         go_simp
         with_reducible rfl
        rotate_left
        ·
         simp only [Act.put, List.setIfInBounds_toArray, List.set_cons_zero, List.set_cons_succ, i64_w, i32_w]
         rfl
        refine pure_ (i := 3) (N := some 32) (v := ?_) (a' := ?_) #[true, false, false, true, false, false, false, false, false] rfl rfl (any_of HT_.out (by kernel_rfl)) (fun _ _ _ h => h) (Or.inl ⟨by rfl, ?_⟩) ?_ ?_
        rotate_left
        ·
         intro w'
         go_simp
         with_reducible rfl
        rotate_left
        ·
         simp only [Act.put, List.setIfInBounds_toArray, List.set_cons_zero, List.set_cons_succ, i64_w, i32_w]
         rfl
        refine take_ (i := 1) (N := some 30) (v := ?_) (a' := ?_) #[true, true, false, true, false, false, false, false, false] rfl rfl (take_ofW HT_.out HW_.out (by kernel_rfl)) (fun _ _ _ h => h) (Or.inl ⟨by rfl, ?_⟩) hHeld ?_ ?_
        rotate_left
        ·
         rintro w' ⟨s0, s1, s2, s3⟩
         go_simp
         with_reducible rfl
        rotate_left
        ·
         simp only [Act.put, List.setIfInBounds_toArray, List.set_cons_zero, List.set_cons_succ, i64_w, i32_w]
         rfl
        refine pure_ (i := 2) (N := some 31) (v := ?_) (a' := ?_) #[true, true, true, true, false, false, false, false, false] rfl rfl (any_of HT_.out (by kernel_rfl)) (fun _ _ _ h => h) (Or.inl ⟨by rfl, ?_⟩) ?_ ?_
        rotate_left
        ·
         intro w'
         go_simp
         with_reducible rfl
        rotate_left
        ·
         simp only [Act.put, List.setIfInBounds_toArray, List.set_cons_zero, List.set_cons_succ, i64_w, i32_w]
         rfl
        refine take_ (i := 4) (N := some 33) (v := ?_) (a' := ?_) #[true, true, true, true, true, false, false, false, false] rfl rfl (take_ofW HT_.out HW_.out (by kernel_rfl)) (fun _ _ _ h => h) (Or.inl ⟨by rfl, ?_⟩) hHeld ?_ ?_
        rotate_left
        ·
         rintro w' ⟨s0, s1, s2, s3⟩
         go_simp
         with_reducible rfl
        rotate_left
        ·
         simp only [Act.put, List.setIfInBounds_toArray, List.set_cons_zero, List.set_cons_succ, i64_w, i32_w]
         rfl
        refine pure_ (i := 5) (N := some 34) (v := ?_) (a' := ?_) #[true, true, true, true, true, true, false, false, false] rfl rfl (any_of HT_.out (by kernel_rfl)) (fun _ _ _ h => h) (Or.inl ⟨by rfl, ?_⟩) ?_ ?_
        rotate_left
        ·
         intro w'
         go_simp
         with_reducible rfl
        rotate_left
        ·
         simp only [Act.put, List.setIfInBounds_toArray, List.set_cons_zero, List.set_cons_succ, i64_w, i32_w]
         rfl
        refine one_ (i := 6) (N := some 35) #[true, true, true, true, true, true, true, false, false] rfl rfl (one_of HT_.out (by kernel_rfl)) (by decide) (fun K hK => ?_)
        refine goes_ Try.func81 (by kernel_rfl) rfl #[.slice A87 y308.length c87, .slice A88 y313.length c88] (by rfl) rfl rfl lU ?_
        with_reducible refine (slices_Equal_int_int.calls kj2 _ _ y308 _ _ y313 false _ ?side1 ?side2 ?side3 ?side4 A30.out).mono ?_
        (case side1 => exact cU (Kd.V_reads' HO312.out).2.2)
        (case side2 => exact (Kd.V_reads' HO312.out).2.1)
        (case side3 => exact cU (Kd.V_reads' HO317.out).2.2)
        (case side4 => exact (Kd.V_reads' HO317.out).2.1)
        rintro e w' ⟨rfl, ⟨nd, rfl⟩⟩
        refine ⟨_, rfl, ?_⟩
        refine hK.out _ _ ⟨(blk_cell BK291.out 0).trans rfl, (blk_cell BK291.out 1).trans rfl, (blk_cell BK292.out 0).trans rfl, (blk_cell BK292.out 1).trans rfl⟩ (fun hHeld => ?_)
        clear hK K
        refine norm_ (a' := ?_) ?_ ?_
        rotate_left
        ·
         show Act.put _ (some 35) _ = _
         simp only [Act.put, List.setIfInBounds_toArray, List.set_cons_zero, List.set_cons_succ, i64_w, i32_w]
         rfl
        refine pure_ (i := 7) (N := some 36) (v := ?_) (a' := ?_) #[true, true, true, true, true, true, true, true, false] rfl rfl (any_of HT_.out (by kernel_rfl)) (fun _ _ _ h => h) (Or.inl ⟨by rfl, ?_⟩) ?_ ?_
        rotate_left
        ·
         intro w'
         go_simp
         with_reducible rfl
        rotate_left
        ·
         simp only [Act.put, List.setIfInBounds_toArray, List.set_cons_zero, List.set_cons_succ, i64_w, i32_w]
         rfl
        refine pure_ (i := 8) (N := some 28) (v := ?_) (a' := ?_) #[true, true, true, true, true, true, true, true, true] rfl rfl (any_of HT_.out (by kernel_rfl)) (fun _ _ _ h => h) (Or.inl ⟨by rfl, ?_⟩) ?_ ?_
        rotate_left
        ·
         intro w'
         go_simp
         with_reducible rfl
        rotate_left
        ·
         simp only [Act.put, List.setIfInBounds_toArray, List.set_cons_zero, List.set_cons_succ, i64_w, i32_w]
         rfl
        refine done_ (done_of HT_.out (by kernel_rfl)) ?_
        have hcz89_0 : w86.cell? ⟨gb293, 0, none⟩ = some (.slice none 0 0) := (blk_cell BK293.out 0).trans rfl
        have hcz89_1 : w86.cell? ⟨gb293, 1, none⟩ = some (.slice none 0 0) := (blk_cell BK293.out 1).trans rfl
        have hfz89_0 := blk_frozen BK293.out 0
        have hfz89_1 := blk_frozen BK293.out 1
        try go_wp2
        refine bodyPost_ret (results_ct rfl _ _ gb293 26 #[.slice none 0 0, .slice none 0 0] (0, 0) _ rfl (by refine kU ?_; refine blk_put (cs := #[.slice none 0 0, .slice none 0 0]) ?_ 1 _ rfl; refine kU ?_; refine blk_put (cs := #[.slice none 0 0, .slice none 0 0]) ?_ 0 _ rfl; refine kU ?_; exact BK293.out) Try.underlying26 rfl (by kernel_rfl)) rfl ?_
        exact ⟨_, _, by first | rfl | (simp [errW_none, errW_some] <;> rfl) | (simp [*, errW_none, errW_some] <;> rfl), by first | exact Kd.R_nil _ _ _ _ _ | exact Kd.N_nil _ _ _ _ _ | exact Kd.V_nil _ _ _ _ _ | exact Kd.Q_nil _ _ _ _ _ | exact Kd.S_nil _ _ _ _ _, by first | exact Kd.R_nil _ _ _ _ _ | exact Kd.N_nil _ _ _ _ _ | exact Kd.V_nil _ _ _ _ _ | exact Kd.Q_nil _ _ _ _ _ | exact Kd.S_nil _ _ _ _ _, by exact bS3 HB.out GE291.out GE292.out GE293.out⟩
      ·
       rw [if_neg c29] at H
       exact absurd H (by simp)
     ·
      rw [if_neg c28] at H
      exact absurd H (by simp)
    ·
     rw [if_neg c27] at H
     have c27b0 : ((t296.length : Int) == (t302.length : Int)) = false := beq_eq_false_iff_ne.mpr c27
     have c27b1 : ((t296.length : Int) != (t302.length : Int)) = true := bne_iff_ne.mpr c27
     have c27b2 : (t296.length == t302.length) = false := by first | simpa using c27 | (simp at c27 ⊢; omega)
     simp only [Option.some.injEq, Prod.mk.injEq] at H
     obtain ⟨rfl, rfl, rfl⟩ := H
     try go_wp2
     replace BK291 := Aside0.mk (blk_drew BK291.out)
     replace BK292 := Aside0.mk (blk_drew BK292.out)
     replace BK293 := Aside0.mk (blk_drew BK293.out)
     replace HB := Aside0.mk (below_drew1 HB.out)
     refine start_ (n := 6) (S := fun w' => w'.cell? ⟨gb291, 0, none⟩ = some (.slice A0_0 l0_0.length c0_0) ∧ w'.cell? ⟨gb291, 1, none⟩ = some (.slice A0_1 l0_1.length c0_1) ∧ w'.cell? ⟨gb292, 0, none⟩ = some (.slice A1_0 l1_0.length c1_0) ∧ w'.cell? ⟨gb292, 1, none⟩ = some (.slice A1_1 l1_1.length c1_1)) (ds := [4, 5]) #[false, false, false, false, false, false] (by kernel_rfl) rfl rfl ⟨(blk_cell BK291.out 0).trans rfl, (blk_cell BK291.out 1).trans rfl, (blk_cell BK292.out 0).trans rfl, (blk_cell BK292.out 1).trans rfl⟩ (fun hHeld => ?_)
     generalize wc.drew = w90 at BK291 BK292 BK293 HB hHeld ⊢
     refine take_ (i := 0) (N := some 15) (v := ?_) (a' := ?_) #[true, false, false, false, false, false] rfl rfl (by kernel_rfl) (fun _ _ _ h => h) (Or.inl ⟨by rfl, ?_⟩) hHeld ?_ ?_
     rotate_left
     ·
      rintro w' ⟨s0, s1, s2, s3⟩
      go_simp
      with_reducible rfl
     rotate_left
     ·
      simp only [Act.put, List.setIfInBounds_toArray, List.set_cons_zero, List.set_cons_succ, i64_w, i32_w]
      rfl
     refine take_ (i := 2) (N := some 17) (v := ?_) (a' := ?_) #[true, false, true, false, false, false] rfl rfl (by kernel_rfl) (fun _ _ _ h => h) (Or.inl ⟨by rfl, ?_⟩) hHeld ?_ ?_
     rotate_left
     ·
      rintro w' ⟨s0, s1, s2, s3⟩
      go_simp
      with_reducible rfl
     rotate_left
     ·
      simp only [Act.put, List.setIfInBounds_toArray, List.set_cons_zero, List.set_cons_succ, i64_w, i32_w]
      rfl
     refine one_ (i := 1) (N := some 16) #[true, true, true, false, false, false] rfl rfl (by kernel_rfl) (by decide) (fun K hK => ?_)
     refine goes_ Try.func103 (by kernel_rfl) rfl #[.agg #[.slice A0_0 l0_0.length c0_0, .slice A0_1 l0_1.length c0_1]] (by rfl) rfl rfl lU ?_
     with_reducible refine (impl_asRows.calls (fun k_ => k_ < w.heap.size) _ _ l0_0 (fun k_ => k_ < w.heap.size) _ _ l0_1 t296 t299 _ ?side1 ?side2 A25.out).mono ?_
     (case side1 => exact Kd.V_mk HC0_0.out (Kd.F_below (Kd.C_F (Kd.heap_int .i64) HR0_0.out) (bS3 HB.out GE291.out GE292.out GE293.out)))
     (case side2 => exact Kd.V_mk HC0_1.out (Kd.F_below (Kd.C_F (Kd.heap_int .i64) HR0_1.out) (bS3 HB.out GE291.out GE292.out GE293.out)))
     rintro e w91 ⟨v297, v300, rfl, ho0, ho1, hb⟩
     refine ⟨_, rfl, ?_⟩
     have HO298 := Aside0.mk (Kd.V_lower (Kd.V_mono (ok' := fun k_ => k_ ≠ gb291 ∧ k_ ≠ gb292 ∧ k_ ≠ gb293) ho0 (fun k_ hk_ => ⟨Or.elim hk_ (fun hs_ => Or.elim hs_ (fun hs_ => fun e_ => Nat.not_le.2 hs_ (by rw [e_]; exact GW291.out)) (fun hs_ => fun e_ => Nat.not_le.2 hs_ (by rw [e_]; exact GW291.out))) (fun hn_ => (Kd.freshB (g := gb291) (o := .cells #[.slice A0_0 l0_0.length c0_0, .slice A0_1 l0_1.length c0_1] 26 (0, 0)) (kU BK291.out) k_ hn_)), Or.elim hk_ (fun hs_ => Or.elim hs_ (fun hs_ => fun e_ => Nat.not_le.2 hs_ (by rw [e_]; exact GW292.out)) (fun hs_ => fun e_ => Nat.not_le.2 hs_ (by rw [e_]; exact GW292.out))) (fun hn_ => (Kd.freshB (g := gb292) (o := .cells #[.slice A1_0 l1_0.length c1_0, .slice A1_1 l1_1.length c1_1] 26 (0, 0)) (kU BK292.out) k_ hn_)), Or.elim hk_ (fun hs_ => Or.elim hs_ (fun hs_ => fun e_ => Nat.not_le.2 hs_ (by rw [e_]; exact GW293.out)) (fun hs_ => fun e_ => Nat.not_le.2 hs_ (by rw [e_]; exact GW293.out))) (fun hn_ => (Kd.freshB (g := gb293) (o := .cells #[.slice none 0 0, .slice none 0 0] 26 (0, 0)) (kU BK293.out) k_ hn_))⟩)) (below_size (bS3 HB.out GE291.out GE292.out GE293.out)))
     have HO301 := Aside0.mk (Kd.V_lower (Kd.V_mono (ok' := fun k_ => k_ ≠ gb291 ∧ k_ ≠ gb292 ∧ k_ ≠ gb293) ho1 (fun k_ hk_ => ⟨Or.elim hk_ (fun hs_ => Or.elim hs_ (fun hs_ => fun e_ => Nat.not_le.2 hs_ (by rw [e_]; exact GW291.out)) (fun hs_ => fun e_ => Nat.not_le.2 hs_ (by rw [e_]; exact GW291.out))) (fun hn_ => (Kd.freshB (g := gb291) (o := .cells #[.slice A0_0 l0_0.length c0_0, .slice A0_1 l0_1.length c0_1] 26 (0, 0)) (kU BK291.out) k_ hn_)), Or.elim hk_ (fun hs_ => Or.elim hs_ (fun hs_ => fun e_ => Nat.not_le.2 hs_ (by rw [e_]; exact GW292.out)) (fun hs_ => fun e_ => Nat.not_le.2 hs_ (by rw [e_]; exact GW292.out))) (fun hn_ => (Kd.freshB (g := gb292) (o := .cells #[.slice A1_0 l1_0.length c1_0, .slice A1_1 l1_1.length c1_1] 26 (0, 0)) (kU BK292.out) k_ hn_)), Or.elim hk_ (fun hs_ => Or.elim hs_ (fun hs_ => fun e_ => Nat.not_le.2 hs_ (by rw [e_]; exact GW293.out)) (fun hs_ => fun e_ => Nat.not_le.2 hs_ (by rw [e_]; exact GW293.out))) (fun hn_ => (Kd.freshB (g := gb293) (o := .cells #[.slice none 0 0, .slice none 0 0] 26 (0, 0)) (kU BK293.out) k_ hn_))⟩)) (below_size (bS3 HB.out GE291.out GE292.out GE293.out)))
     replace BK291 := Aside0.mk (kB BK291.out hb)
     replace BK292 := Aside0.mk (kB BK292.out hb)
     replace BK293 := Aside0.mk (kB BK293.out hb)
     replace HB := Aside0.mk (below_step (bS3 HB.out GE291.out GE292.out GE293.out) hb)
     (try clear hb)
     (try clear hb2)
     (try clear hk)
     (try clear hi)
     (try clear ho0)
     (try clear ho1)
     refine hK.out _ _ ⟨(blk_cell BK291.out 0).trans rfl, (blk_cell BK291.out 1).trans rfl, (blk_cell BK292.out 0).trans rfl, (blk_cell BK292.out 1).trans rfl⟩ (fun hHeld => ?_)
     clear hK K
     refine norm_ (a' := ?_) ?_ ?_
     rotate_left
     ·
      show Act.put _ (some 16) _ = _
      simp only [Act.put, List.setIfInBounds_toArray, List.set_cons_zero, List.set_cons_succ, i64_w, i32_w]
      rfl
     refine one_ (i := 3) (N := some 18) #[true, true, true, true, false, false] rfl rfl (by kernel_rfl) (by decide) (fun K hK => ?_)
     refine goes_ Try.func103 (by kernel_rfl) rfl #[.agg #[.slice A1_0 l1_0.length c1_0, .slice A1_1 l1_1.length c1_1]] (by rfl) rfl rfl lU ?_
     with_reducible refine (impl_asRows.calls (fun k_ => k_ < w.heap.size) _ _ l1_0 (fun k_ => k_ < w.heap.size) _ _ l1_1 t302 t305 _ ?side1 ?side2 A26.out).mono ?_
     (case side1 => exact Kd.V_mk HC1_0.out (Kd.F_below (Kd.C_F (Kd.heap_int .i64) HR1_0.out) (bS3 HB.out GE291.out GE292.out GE293.out)))
     (case side2 => exact Kd.V_mk HC1_1.out (Kd.F_below (Kd.C_F (Kd.heap_int .i64) HR1_1.out) (bS3 HB.out GE291.out GE292.out GE293.out)))
     rintro e w92 ⟨v303, v306, rfl, ho0, ho1, hb⟩
     refine ⟨_, rfl, ?_⟩
     replace HO298 := Aside0.mk (Kd.V_below (VU HO298.out) hb)
     replace HO301 := Aside0.mk (Kd.V_below (VU HO301.out) hb)
     have HO304 := Aside0.mk (Kd.V_lower (Kd.V_mono (ok' := fun k_ => k_ ≠ gb291 ∧ k_ ≠ gb292 ∧ k_ ≠ gb293) ho0 (fun k_ hk_ => ⟨Or.elim hk_ (fun hs_ => Or.elim hs_ (fun hs_ => fun e_ => Nat.not_le.2 hs_ (by rw [e_]; exact GW291.out)) (fun hs_ => fun e_ => Nat.not_le.2 hs_ (by rw [e_]; exact GW291.out))) (fun hn_ => (Kd.freshB (g := gb291) (o := .cells #[.slice A0_0 l0_0.length c0_0, .slice A0_1 l0_1.length c0_1] 26 (0, 0)) (kU BK291.out) k_ hn_)), Or.elim hk_ (fun hs_ => Or.elim hs_ (fun hs_ => fun e_ => Nat.not_le.2 hs_ (by rw [e_]; exact GW292.out)) (fun hs_ => fun e_ => Nat.not_le.2 hs_ (by rw [e_]; exact GW292.out))) (fun hn_ => (Kd.freshB (g := gb292) (o := .cells #[.slice A1_0 l1_0.length c1_0, .slice A1_1 l1_1.length c1_1] 26 (0, 0)) (kU BK292.out) k_ hn_)), Or.elim hk_ (fun hs_ => Or.elim hs_ (fun hs_ => fun e_ => Nat.not_le.2 hs_ (by rw [e_]; exact GW293.out)) (fun hs_ => fun e_ => Nat.not_le.2 hs_ (by rw [e_]; exact GW293.out))) (fun hn_ => (Kd.freshB (g := gb293) (o := .cells #[.slice none 0 0, .slice none 0 0] 26 (0, 0)) (kU BK293.out) k_ hn_))⟩)) (below_size (bS3 HB.out GE291.out GE292.out GE293.out)))
     have HO307 := Aside0.mk (Kd.V_lower (Kd.V_mono (ok' := fun k_ => k_ ≠ gb291 ∧ k_ ≠ gb292 ∧ k_ ≠ gb293) ho1 (fun k_ hk_ => ⟨Or.elim hk_ (fun hs_ => Or.elim hs_ (fun hs_ => fun e_ => Nat.not_le.2 hs_ (by rw [e_]; exact GW291.out)) (fun hs_ => fun e_ => Nat.not_le.2 hs_ (by rw [e_]; exact GW291.out))) (fun hn_ => (Kd.freshB (g := gb291) (o := .cells #[.slice A0_0 l0_0.length c0_0, .slice A0_1 l0_1.length c0_1] 26 (0, 0)) (kU BK291.out) k_ hn_)), Or.elim hk_ (fun hs_ => Or.elim hs_ (fun hs_ => fun e_ => Nat.not_le.2 hs_ (by rw [e_]; exact GW292.out)) (fun hs_ => fun e_ => Nat.not_le.2 hs_ (by rw [e_]; exact GW292.out))) (fun hn_ => (Kd.freshB (g := gb292) (o := .cells #[.slice A1_0 l1_0.length c1_0, .slice A1_1 l1_1.length c1_1] 26 (0, 0)) (kU BK292.out) k_ hn_)), Or.elim hk_ (fun hs_ => Or.elim hs_ (fun hs_ => fun e_ => Nat.not_le.2 hs_ (by rw [e_]; exact GW293.out)) (fun hs_ => fun e_ => Nat.not_le.2 hs_ (by rw [e_]; exact GW293.out))) (fun hn_ => (Kd.freshB (g := gb293) (o := .cells #[.slice none 0 0, .slice none 0 0] 26 (0, 0)) (kU BK293.out) k_ hn_))⟩)) (below_size (bS3 HB.out GE291.out GE292.out GE293.out)))
     replace BK291 := Aside0.mk (kB BK291.out hb)
     replace BK292 := Aside0.mk (kB BK292.out hb)
     replace BK293 := Aside0.mk (kB BK293.out hb)
     replace HB := Aside0.mk (below_step (bS3 HB.out GE291.out GE292.out GE293.out) hb)
     (try clear hb)
     (try clear hb2)
     (try clear hk)
     (try clear hi)
     (try clear ho0)
     (try clear ho1)
     obtain ⟨Ao93, co93, eo93⟩ := Kd.V_slice HO298.out
     (first | subst eo93 | (injection eo93 with f1_ f2_ f3_; have f4_ := f1_.symm; have f5_ := f3_.symm; clear f1_ f2_ f3_; subst f4_; subst f5_))
     obtain ⟨Ao95, co95, eo95⟩ := Kd.V_slice HO301.out
     (first | subst eo95 | (injection eo95 with f1_ f2_ f3_; have f4_ := f1_.symm; have f5_ := f3_.symm; clear f1_ f2_ f3_; subst f4_; subst f5_))
     obtain ⟨Ao97, co97, eo97⟩ := Kd.V_slice HO304.out
     (first | subst eo97 | (injection eo97 with f1_ f2_ f3_; have f4_ := f1_.symm; have f5_ := f3_.symm; clear f1_ f2_ f3_; subst f4_; subst f5_))
     obtain ⟨Ao99, co99, eo99⟩ := Kd.V_slice HO307.out
     (first | subst eo99 | (injection eo99 with f1_ f2_ f3_; have f4_ := f1_.symm; have f5_ := f3_.symm; clear f1_ f2_ f3_; subst f4_; subst f5_))
     refine hK.out _ _ ⟨(blk_cell BK291.out 0).trans rfl, (blk_cell BK291.out 1).trans rfl, (blk_cell BK292.out 0).trans rfl, (blk_cell BK292.out 1).trans rfl⟩ (fun hHeld => ?_)
     clear hK K
     refine norm_ (a' := ?_) ?_ ?_
     rotate_left
     ·
      show Act.put _ (some 18) _ = _
      simp only [Act.put, List.setIfInBounds_toArray, List.set_cons_zero, List.set_cons_succ, i64_w, i32_w]
      rfl
     refine last_ (i := 4) (N := none) #[true, true, true, true, true, false] rfl rfl (by kernel_rfl) (by decide) (fun K hK => ?_)
     have hs94 : w92.cell? ⟨gb291, 0, none⟩ = some (.slice A0_0 l0_0.length c0_0) := (blk_cell BK291.out 0).trans rfl
     have hfs94 := blk_frozen BK291.out 0
     have hns94_1 := NB292_291.out
     have hns94_2 := NB293_291.out
     have hms94_1 := NB291_292.out
     have hms94_2 := NB291_293.out
     have hs96 : w92.cell? ⟨gb291, 1, none⟩ = some (.slice A0_1 l0_1.length c0_1) := (blk_cell BK291.out 1).trans rfl
     have hfs96 := blk_frozen BK291.out 1
     have hns96_1 := NB292_291.out
     have hns96_2 := NB293_291.out
     have hms96_1 := NB291_292.out
     have hms96_2 := NB291_293.out
     refine skip_ (w1 := ?_) (by rfl) rfl ?_ ?_
     rotate_left
     ·
      go_simp
      rfl
     refine hK.out _ _ ?_
     clear hK K
     refine last_ (i := 5) (N := none) #[true, true, true, true, true, true] rfl rfl (by kernel_rfl) (by decide) (fun K hK => ?_)
     have hs98 : w92.cell? ⟨gb292, 0, none⟩ = some (.slice A1_0 l1_0.length c1_0) := (blk_cell BK292.out 0).trans rfl
     have hfs98 := blk_frozen BK292.out 0
     have hns98_0 := NB291_292.out
     have hns98_2 := NB293_292.out
     have hms98_0 := NB292_291.out
     have hms98_2 := NB292_293.out
     have hs100 : w92.cell? ⟨gb292, 1, none⟩ = some (.slice A1_1 l1_1.length c1_1) := (blk_cell BK292.out 1).trans rfl
     have hfs100 := blk_frozen BK292.out 1
     have hns100_0 := NB291_292.out
     have hns100_2 := NB293_292.out
     have hms100_0 := NB292_291.out
     have hms100_2 := NB292_293.out
     refine skip_ (w1 := ?_) (by rfl) rfl ?_ ?_
     rotate_left
     ·
      go_simp
      rfl
     refine hK.out _ _ ?_
     clear hK K
     refine done_ (by kernel_rfl) ?_
     have hnb101 := NB291_292.out
     have hnc101 := NB292_291.out
     have hnb102 := NB291_293.out
     have hnc102 := NB293_291.out
     have hcz103_0 : w92.cell? ⟨gb291, 0, none⟩ = some (.slice A0_0 l0_0.length c0_0) := (blk_cell BK291.out 0).trans rfl
     have hcz103_1 : w92.cell? ⟨gb291, 1, none⟩ = some (.slice A0_1 l0_1.length c0_1) := (blk_cell BK291.out 1).trans rfl
     have hfz103_0 := blk_frozen BK291.out 0
     have hfz103_1 := blk_frozen BK291.out 1
     have hnb104 := NB292_293.out
     have hnc104 := NB293_292.out
     have hcz105_0 : w92.cell? ⟨gb292, 0, none⟩ = some (.slice A1_0 l1_0.length c1_0) := (blk_cell BK292.out 0).trans rfl
     have hcz105_1 : w92.cell? ⟨gb292, 1, none⟩ = some (.slice A1_1 l1_1.length c1_1) := (blk_cell BK292.out 1).trans rfl
     have hfz105_0 := blk_frozen BK292.out 0
     have hfz105_1 := blk_frozen BK292.out 1
     have hcz106_0 : w92.cell? ⟨gb293, 0, none⟩ = some (.slice none 0 0) := (blk_cell BK293.out 0).trans rfl
     have hcz106_1 : w92.cell? ⟨gb293, 1, none⟩ = some (.slice none 0 0) := (blk_cell BK293.out 1).trans rfl
     have hfz106_0 := blk_frozen BK293.out 0
     have hfz106_1 := blk_frozen BK293.out 1
     try go_wp2
     refine bodyPost_ret (results_ct rfl _ _ gb293 26 #[.slice none 0 0, .slice none 0 0] (0, 0) _ rfl (by refine kU ?_; refine blk_put (cs := #[.slice none 0 0, .slice none 0 0]) ?_ 1 _ rfl; refine kU ?_; refine blk_put (cs := #[.slice none 0 0, .slice none 0 0]) ?_ 0 _ rfl; refine kU ?_; refine blk_far ?_ NB293_292.out _; refine kU ?_; refine blk_far ?_ NB293_292.out _; refine kU ?_; refine blk_far ?_ NB293_291.out _; refine kU ?_; refine blk_far ?_ NB293_291.out _; refine kU ?_; exact BK293.out) Try.underlying26 rfl (by kernel_rfl)) rfl ?_
     exact ⟨_, _, by first | rfl | (simp [errW_none, errW_some] <;> rfl) | (simp [*, errW_none, errW_some] <;> rfl), by first | exact Kd.R_nil _ _ _ _ _ | exact Kd.N_nil _ _ _ _ _ | exact Kd.V_nil _ _ _ _ _ | exact Kd.Q_nil _ _ _ _ _ | exact Kd.S_nil _ _ _ _ _, by first | exact Kd.R_nil _ _ _ _ _ | exact Kd.N_nil _ _ _ _ _ | exact Kd.V_nil _ _ _ _ _ | exact Kd.Q_nil _ _ _ _ _ | exact Kd.S_nil _ _ _ _ _, by exact bS3 HB.out GE291.out GE292.out GE293.out⟩

end Go.Proofs.Ytcnbajdnlkcjjaa.PFnExactJoin
