/- The walk of what a law reaches, for the law's row: written by a program of this session; it has no condition of its own. -/
import Derived.Test.YtlaikodjcjfeiaaPFnEachx0
import Derived.Test.YtlaikodjcjfeiaaQ
import Derived.Test.YtlaikodjcjfeiaaPFnEachx5
import Derived.Test.YtlaikodjcjfeiaaPFnEachx6
namespace Go.Proofs.Ytlaikodjcjfeiaa.PFnEach
open Go.RowKit Go.Proofs.YtlaikodjcjfeiaaW.PrintWords Go.Proofs.YtlaikodjcjfeiaaW.PrintLast Go.Proofs.YtlaikodjcjfeiaaW.PrintMore Go.Proofs.YtlaikodjcjfeiaaQ
attribute [local go_sem] max2_int min2_int max_two min_two max_three min_three max_four min_four   -- for this text's walks alone
set_option linter.unusedVariables false
set_option linter.unusedSimpArgs false

/-! ### impl_at: function 73 -/
def impl_at.f (l0_0 : List Int) (l0_1 : List Int) (a1 : Int) : Option (Int) := if (l0_0.length : Int) = 0 then (if 0 < (l0_1.length : Int) then (some (rd l0_1 0)) else (none)) else (if 0 ≤ a1 then (if a1 < (l0_1.length : Int) then (some (rd l0_1 a1)) else (none)) else (none))
set_option maxHeartbeats 8000000 in
set_option maxRecDepth 100000 in
theorem impl_at.calls (A0_0 : Option Addr) (c0_0 : Nat) (l0_0 : List Int) (A0_1 : Option Addr) (c0_1 : Nat) (l0_1 : List Int) (a1 : Int) (r : Int) (w : World) (hr0_0 : Kd.C (Kd.int .i64) w A0_0 l0_0.length l0_0) (hc0_0 : l0_0.length ≤ c0_0) (hr0_1 : Kd.C (Kd.int .i64) w A0_1 l0_1.length l0_1) (hc0_1 : l0_1.length ≤ c0_1) (h : impl_at.f l0_0 l0_1 a1 = some r) :
  Calls Try.prog 73 #[.agg #[.slice A0_0 l0_0.length c0_0, .slice A0_1 l0_1.length c0_1], .int .i64 a1] w fun e w' => e = .returned (.int .i64 r) ∧ Below w.heap.size w w' := by
 have hu26 := Try.underlying26
 have HR0_0 := Aside0.mk hr0_0
 have HC0_0 := Aside0.mk hc0_0
 clear hr0_0 hc0_0
 have HR0_1 := Aside0.mk hr0_1
 have HC0_1 := Aside0.mk hc0_1
 clear hr0_1 hc0_1
 have HB := Aside0.mk (Below.refl w.heap.size w)
 have H : (if (l0_0.length : Int) = 0 then (if 0 < (l0_1.length : Int) then (some (rd l0_1 0)) else (none)) else (if 0 ≤ a1 then (if a1 < (l0_1.length : Int) then (some (rd l0_1 a1)) else (none)) else (none))) = some r := h
 clear h
 by_cases c3 : (l0_0.length : Int) = 0
 ·
  rw [if_pos c3] at H
  have c3b0 : ((l0_0.length : Int) == 0) = true := beq_iff_eq.mpr c3
  have c3b1 : ((l0_0.length : Int) != 0) = false := bne_eq_false_iff_eq.mpr c3
  clear c3
  by_cases c4 : 0 < (l0_1.length : Int)
  ·
   rw [if_pos c4] at H
   have c4b0 : decide (0 < (l0_1.length : Int)) = true := decide_eq_true c4
   have c4b1 : decide (0 < l0_1.length) = true := decide_eq_true (by omega)
   clear c4
   obtain rfl := Option.some.inj H
   go_enter Try.func73, Try.ntmps73
   go_wp2_with (first | ((with_reducible refine gate_dst (N := 2) rfl ?_); refine box_event ?hg (N := 2) ?hd (cs := #[.slice A0_0 l0_0.length c0_0, .slice A0_1 l0_1.length c0_1]) (t := 26) ?hr ?_; (case hd => rfl); (case hg => rfl); (case hr => first | (go_simp; done) | (go_simp; rfl)); intro gb429 hg w5 hbox hb; have BK429 := Aside0.mk (hbox); have GW429 := Aside0.mk ((by rw [hg]; exact (below_size (bU HB.out)) : w.heap.size ≤ gb429)); have GE429 := Aside0.mk ((by rw [hg]; exact (below_size (bU HB.out)) : w.heap.size ≤ gb429)); replace HB := Aside0.mk (below_step (bU HB.out) hb); clear hb hbox hg; have hcz6_0 : w5.cell? ⟨gb429, 0, none⟩ = some (.slice A0_0 l0_0.length c0_0) := (blk_cell BK429.out 0).trans rfl; have hcz6_1 : w5.cell? ⟨gb429, 1, none⟩ = some (.slice A0_1 l0_1.length c0_1) := (blk_cell BK429.out 1).trans rfl; have hfz6_0 := blk_frozen BK429.out 0; have hfz6_1 := blk_frozen BK429.out 1; have p430 : 0 ≤ (0 : Int) := (by omega); have q430 : 0 < (l0_1.length : Int) := of_decide_eq_true (by first | (with_reducible assumption) | assumption); obtain ⟨ad430, e430, hx430_0⟩ := Kd.at_int HR0_1.out 0 p430 q430; cases e430; have qi430 : (0 < l0_1.length) = True := eq_true (by omega); (try rw [show ((0 : Int)).toNat = 0 from rfl] at hx430_0); (try rw [Addr.add_zero'] at hx430_0); replace hx430_0 := (HB.out.cell (World.block_lt_of_cell? w _ hx430_0)).trans hx430_0; replace p430 := eq_true p430; replace q430 := eq_true q430))
   go_ret
   exact ⟨by first | rfl | (simp [errW_none, errW_some] <;> rfl) | (simp [*, errW_none, errW_some] <;> rfl), by exact bS1 HB.out GE429.out⟩
  ·
   rw [if_neg c4] at H
   exact absurd H (by simp)
 ·
  rw [if_neg c3] at H
  have c3b0 : ((l0_0.length : Int) == 0) = false := beq_eq_false_iff_ne.mpr c3
  have c3b1 : ((l0_0.length : Int) != 0) = true := bne_iff_ne.mpr c3
  have c3b2 : ¬ (l0_0 = []) := fun h_ => c3 (by rw [h_]; rfl)
  by_cases c7 : 0 ≤ a1
  ·
   rw [if_pos c7] at H
   have c7b0 : decide (0 ≤ a1) = true := decide_eq_true c7
   clear c7
   by_cases c8 : a1 < (l0_1.length : Int)
   ·
    rw [if_pos c8] at H
    have c8b0 : decide (a1 < (l0_1.length : Int)) = true := decide_eq_true c8
    clear c8
    obtain rfl := Option.some.inj H
    go_enter Try.func73, Try.ntmps73
    go_wp2_with (first | ((with_reducible refine gate_dst (N := 2) rfl ?_); refine box_event ?hg (N := 2) ?hd (cs := #[.slice A0_0 l0_0.length c0_0, .slice A0_1 l0_1.length c0_1]) (t := 26) ?hr ?_; (case hd => rfl); (case hg => rfl); (case hr => first | (go_simp; done) | (go_simp; rfl)); intro gb429 hg w9 hbox hb; have BK429 := Aside0.mk (hbox); have GW429 := Aside0.mk ((by rw [hg]; exact (below_size (bU HB.out)) : w.heap.size ≤ gb429)); have GE429 := Aside0.mk ((by rw [hg]; exact (below_size (bU HB.out)) : w.heap.size ≤ gb429)); replace HB := Aside0.mk (below_step (bU HB.out) hb); clear hb hbox hg; have hcz10_0 : w9.cell? ⟨gb429, 0, none⟩ = some (.slice A0_0 l0_0.length c0_0) := (blk_cell BK429.out 0).trans rfl; have hcz10_1 : w9.cell? ⟨gb429, 1, none⟩ = some (.slice A0_1 l0_1.length c0_1) := (blk_cell BK429.out 1).trans rfl; have hfz10_0 := blk_frozen BK429.out 0; have hfz10_1 := blk_frozen BK429.out 1; have p431 : 0 ≤ (a1 : Int) := of_decide_eq_true (by first | (with_reducible assumption) | assumption); have q431 : a1 < (l0_1.length : Int) := of_decide_eq_true (by first | (with_reducible assumption) | assumption); obtain ⟨ad431, e431, hx431_0⟩ := Kd.at_int HR0_1.out a1 p431 q431; cases e431; replace hx431_0 := (HB.out.cell (World.block_lt_of_cell? w _ hx431_0)).trans hx431_0; replace p431 := eq_true p431; replace q431 := eq_true q431))
    go_ret
    exact ⟨by first | rfl | (simp [errW_none, errW_some] <;> rfl) | (simp [*, errW_none, errW_some] <;> rfl), by exact bS1 HB.out GE429.out⟩
   ·
    rw [if_neg c8] at H
    exact absurd H (by simp)
  ·
   rw [if_neg c7] at H
   exact absurd H (by simp)

/-! ### impl_EachTwo: function 17 -/
mutual
def impl_EachTwo.j0 : Nat → Int → List Int → Int → Bool → List Int → List Int → List Int → List Int → Option (List Int × List Int × Int)
 | 0, _, _, _, _, _, _, _, _ => none
 | k + 1, x0, x8, x9, x26, x433000, x433001, x434000, x434001 => if x26 = true then (some (([] : List Int), ([] : List Int), 1)) else (if x9 = 0 then (impl_EachTwo.l0 k x0 x8 0 x433000 x433001 x434000 x434001 x8 ([] : List Int)) else (some (([] : List Int), ([] : List Int), x9)))
def impl_EachTwo.l0 : Nat → Int → List Int → Int → List Int → List Int → List Int → List Int → List Int → List Int → Option (List Int × List Int × Int)
 | 0, _, _, _, _, _, _, _, _, _ => none
 | k + 1, x0, x8, x11, x433000, x433001, x434000, x434001, x441000, x441001 => (impl_SizeOf.f k x8).bind fun t441 => (if x11 < t441 then ((impl_at.f x433000 x433001 x11).bind fun t442 => ((impl_at.f x434000 x434001 x11).bind fun t443 => ((impl_Two.f k x0 t442 t443).bind fun bt444 => (if bt444.2 = 0 then (if x441001.length < 17592186044416 then (impl_EachTwo.l0 k x0 x8 (wrap64 (x11 + 1)) x433000 x433001 x434000 x434001 x441000 (x441001 ++ [bt444.1])) else (none)) else (some (([] : List Int), ([] : List Int), bt444.2)))))) else (some (x441000, x441001, 0)))
end
def impl_EachTwo.f (k : Nat) (a0 : Int) (l1_0 : List Int) (l1_1 : List Int) (l2_0 : List Int) (l2_1 : List Int) : Option (List Int × List Int × Int) := (impl_Fit.f k l1_0 l1_1 l2_0 l2_1).bind fun bt435 => (if bt435.2 = 1 then (impl_EachTwo.j0 k a0 bt435.1 bt435.2 true l1_0 l1_1 l2_0 l2_1) else ((impl_twoSign.f k a0).bind fun t439 => (impl_EachTwo.j0 k a0 bt435.1 bt435.2 (!t439) l1_0 l1_1 l2_0 l2_1)))
def impl_EachTwo.T10 : Bool × List (List Nat × List Nat) := (true, [([], []), ([], []), ([], []), ([1, 2], [1, 2]), ([], []), ([], []), ([4, 5, 3], [4, 5]), ([0, 3, 6, 6], [0, 3, 6]), ([7], [7]), ([8], [8]), ([8], [8]), ([9, 7, 0, 1, 2, 3, 4, 5, 6, 7, 8, 9], [9]), ([10, 11, 0, 1, 2, 3, 4, 5, 6, 7, 8, 9, 10, 11], [10])])
def impl_EachTwo.B10 : List Nat := [0, 0, 0, 6, 0, 0, 62, 127, 255, 511, 511, 1023, 4095]
theorem impl_EachTwo.tab10 : rtab .any (opsOf Try.f17 10) = impl_EachTwo.T10 := by kernel_rfl
theorem impl_EachTwo.bits10 : waitsOk impl_EachTwo.T10.2 impl_EachTwo.B10 = true := by kernel_rfl
set_option maxHeartbeats 8000000 in
set_option maxRecDepth 100000 in
theorem impl_EachTwo.calls (k : Nat) (a0 : Int) (A1_0 : Option Addr) (c1_0 : Nat) (l1_0 : List Int) (A1_1 : Option Addr) (c1_1 : Nat) (l1_1 : List Int) (A2_0 : Option Addr) (c2_0 : Nat) (l2_0 : List Int) (A2_1 : Option Addr) (c2_1 : Nat) (l2_1 : List Int) (r1 : List Int) (r2 : List Int) (r3 : Int) (w : World) (hr1_0 : Kd.C (Kd.int .i64) w A1_0 l1_0.length l1_0) (hc1_0 : l1_0.length ≤ c1_0) (hr1_1 : Kd.C (Kd.int .i64) w A1_1 l1_1.length l1_1) (hc1_1 : l1_1.length ≤ c1_1) (hr2_0 : Kd.C (Kd.int .i64) w A2_0 l2_0.length l2_0) (hc2_0 : l2_0.length ≤ c2_0) (hr2_1 : Kd.C (Kd.int .i64) w A2_1 l2_1.length l2_1) (hc2_1 : l2_1.length ≤ c2_1) (h : impl_EachTwo.f k a0 l1_0 l1_1 l2_0 l2_1 = some (r1, r2, r3)) :
  Calls Try.prog 17 #[.int .i64 a0, .agg #[.slice A1_0 l1_0.length c1_0, .slice A1_1 l1_1.length c1_1], .agg #[.slice A2_0 l2_0.length c2_0, .slice A2_1 l2_1.length c2_1]] w fun e w' => ∃ v0_ v1_ : Value, e = .returned (.tuple #[.agg #[v0_, v1_], .int .i64 r3]) ∧ Kd.R (Kd.int .i64) 3 w' w.heap.size (fun k_ => some k_ ≠ (v1_ : Value).ownBlock) v0_ r1 ∧ Kd.R (Kd.int .i64) 3 w' w.heap.size (fun k_ => some k_ ≠ (v0_ : Value).ownBlock) v1_ r2 ∧ Below w.heap.size w w' := by
 have hu26 := Try.underlying26
 have HR1_0 := Aside0.mk hr1_0
 have HC1_0 := Aside0.mk hc1_0
 clear hr1_0 hc1_0
 have HR1_1 := Aside0.mk hr1_1
 have HC1_1 := Aside0.mk hc1_1
 clear hr1_1 hc1_1
 have HR2_0 := Aside0.mk hr2_0
 have HC2_0 := Aside0.mk hc2_0
 clear hr2_0 hc2_0
 have HR2_1 := Aside0.mk hr2_1
 have HC2_1 := Aside0.mk hc2_1
 clear hr2_1 hc2_1
 have HB := Aside0.mk (Below.refl w.heap.size w)
 have H : ((impl_Fit.f k l1_0 l1_1 l2_0 l2_1).bind fun bt435 => (if bt435.2 = 1 then (impl_EachTwo.j0 k a0 bt435.1 bt435.2 true l1_0 l1_1 l2_0 l2_1) else ((impl_twoSign.f k a0).bind fun t439 => (impl_EachTwo.j0 k a0 bt435.1 bt435.2 (!t439) l1_0 l1_1 l2_0 l2_1)))) = some (r1, r2, r3) := h
 clear h
 replace H := Option.bind_eq_some_iff.mp H
 obtain ⟨⟨t435, t438⟩, A40, H⟩ := H
 replace H : (if t438 = 1 then (impl_EachTwo.j0 k a0 t435 t438 true l1_0 l1_1 l2_0 l2_1) else ((impl_twoSign.f k a0).bind fun t439 => (impl_EachTwo.j0 k a0 t435 t438 (!t439) l1_0 l1_1 l2_0 l2_1))) = some (r1, r2, r3) := H
 have A4 := Aside0.mk A40
 clear A40
 have HC5 := Aside0.mk H
 clear H
 go_enter Try.func17, Try.ntmps17
 go_upto_region 2 with (first | ((with_reducible refine gate_dst (N := 4) rfl ?_); refine box_event ?hg (N := 4) ?hd (cs := #[.slice A1_0 l1_0.length c1_0, .slice A1_1 l1_1.length c1_1]) (t := 26) ?hr ?_; (case hd => rfl); (case hg => rfl); (case hr => first | (go_simp; done) | (go_simp; rfl)); intro gb432 hg w6 hbox hb; have BK432 := Aside0.mk (hbox); have GW432 := Aside0.mk ((by rw [hg]; exact (below_size (bU HB.out)) : w.heap.size ≤ gb432)); have GE432 := Aside0.mk ((by rw [hg]; exact (below_size (bU HB.out)) : w.heap.size ≤ gb432)); replace HB := Aside0.mk (below_step (bU HB.out) hb); clear hb hbox hg) | ((with_reducible refine gate_dst (N := 5) rfl ?_); refine box_event ?hg (N := 5) ?hd (cs := #[.slice A2_0 l2_0.length c2_0, .slice A2_1 l2_1.length c2_1]) (t := 26) ?hr ?_; (case hd => rfl); (case hg => rfl); (case hr => first | (go_simp; done) | (go_simp; rfl)); intro gb433 hg w7 hbox hb; have BK433 := Aside0.mk (hbox); have GW433 := Aside0.mk ((by rw [hg]; exact (below_size (bS1 HB.out GE432.out)) : w.heap.size ≤ gb433)); have GE433 := Aside0.mk ((by rw [hg]; exact (below_size (bS1 HB.out GE432.out)) : w.heap.size ≤ gb433)); replace HB := Aside0.mk (below_step (bS1 HB.out GE432.out) hb); have NB432_433 := Aside0.mk ((by rw [hg]; exact Nat.ne_of_lt (blk_lt (g := gb432) (o := .cells #[.slice A1_0 l1_0.length c1_0, .slice A1_1 l1_1.length c1_1] 26 (0, 0)) (kU BK432.out)) : gb432 ≠ gb433)); have NB433_432 := Aside0.mk ((by rw [hg]; exact Nat.ne_of_gt (blk_lt (g := gb432) (o := .cells #[.slice A1_0 l1_0.length c1_0, .slice A1_1 l1_1.length c1_1] 26 (0, 0)) (kU BK432.out)) : gb433 ≠ gb432)); replace BK432 := Aside0.mk (blk_below (g := gb432) (o := .cells #[.slice A1_0 l1_0.length c1_0, .slice A1_1 l1_1.length c1_1] 26 (0, 0)) (kU BK432.out) hb); clear hb hbox hg) | ((with_reducible refine gate_dst (N := 6) rfl ?_); refine box_event ?hg (N := 6) ?hd (cs := #[.slice none 0 0, .slice none 0 0]) (t := 26) ?hr ?_; (case hd => rfl); (case hg => rfl); (case hr => first | (go_simp; done) | (go_simp; rfl)); intro gb434 hg w8 hbox hb; have BK434 := Aside0.mk (hbox); have GW434 := Aside0.mk ((by rw [hg]; exact (below_size (bS2 HB.out GE432.out GE433.out)) : w.heap.size ≤ gb434)); have GE434 := Aside0.mk ((by rw [hg]; exact (below_size (bS2 HB.out GE432.out GE433.out)) : w.heap.size ≤ gb434)); replace HB := Aside0.mk (below_step (bS2 HB.out GE432.out GE433.out) hb); have NB432_434 := Aside0.mk ((by rw [hg]; exact Nat.ne_of_lt (blk_lt (g := gb432) (o := .cells #[.slice A1_0 l1_0.length c1_0, .slice A1_1 l1_1.length c1_1] 26 (0, 0)) (kU BK432.out)) : gb432 ≠ gb434)); have NB434_432 := Aside0.mk ((by rw [hg]; exact Nat.ne_of_gt (blk_lt (g := gb432) (o := .cells #[.slice A1_0 l1_0.length c1_0, .slice A1_1 l1_1.length c1_1] 26 (0, 0)) (kU BK432.out)) : gb434 ≠ gb432)); replace BK432 := Aside0.mk (blk_below (g := gb432) (o := .cells #[.slice A1_0 l1_0.length c1_0, .slice A1_1 l1_1.length c1_1] 26 (0, 0)) (kU BK432.out) hb); have NB433_434 := Aside0.mk ((by rw [hg]; exact Nat.ne_of_lt (blk_lt (g := gb433) (o := .cells #[.slice A2_0 l2_0.length c2_0, .slice A2_1 l2_1.length c2_1] 26 (0, 0)) (kU BK433.out)) : gb433 ≠ gb434)); have NB434_433 := Aside0.mk ((by rw [hg]; exact Nat.ne_of_gt (blk_lt (g := gb433) (o := .cells #[.slice A2_0 l2_0.length c2_0, .slice A2_1 l2_1.length c2_1] 26 (0, 0)) (kU BK433.out)) : gb434 ≠ gb433)); replace BK433 := Aside0.mk (blk_below (g := gb433) (o := .cells #[.slice A2_0 l2_0.length c2_0, .slice A2_1 l2_1.length c2_1] 26 (0, 0)) (kU BK433.out) hb); clear hb hbox hg; have hnb9 := NB432_433.out; have hnc9 := NB433_432.out; have hnb10 := NB432_434.out; have hnc10 := NB434_432.out; have hcz11_0 : w8.cell? ⟨gb432, 0, none⟩ = some (.slice A1_0 l1_0.length c1_0) := (blk_cell BK432.out 0).trans rfl; have hcz11_1 : w8.cell? ⟨gb432, 1, none⟩ = some (.slice A1_1 l1_1.length c1_1) := (blk_cell BK432.out 1).trans rfl; have hfz11_0 := blk_frozen BK432.out 0; have hfz11_1 := blk_frozen BK432.out 1; have hnb12 := NB433_434.out; have hnc12 := NB434_433.out; have hcz13_0 : w8.cell? ⟨gb433, 0, none⟩ = some (.slice A2_0 l2_0.length c2_0) := (blk_cell BK433.out 0).trans rfl; have hcz13_1 : w8.cell? ⟨gb433, 1, none⟩ = some (.slice A2_1 l2_1.length c2_1) := (blk_cell BK433.out 1).trans rfl; have hfz13_0 := blk_frozen BK433.out 0; have hfz13_1 := blk_frozen BK433.out 1) | ((with_reducible refine gate_callee (f := 19) rfl ?_); refine goesL_ (some 17) rfl rfl Try.func19 (by kernel_rfl) rfl #[.agg #[.slice A1_0 l1_0.length c1_0, .slice A1_1 l1_1.length c1_1], .agg #[.slice A2_0 l2_0.length c2_0, .slice A2_1 l2_1.length c2_1]] rfl lU ?_; (with_reducible refine (impl_Fit.calls k _ _ l1_0 _ _ l1_1 _ _ l2_0 _ _ l2_1 t435 t438 _ ?side1 ?side2 ?side3 ?side4 ?side5 ?side6 ?side7 ?side8 A4.out).mono ?_); (case side1 => exact cU (Kd.C_below HR1_0.out HB.out)); (case side2 => exact HC1_0.out); (case side3 => exact cU (Kd.C_below HR1_1.out HB.out)); (case side4 => exact HC1_1.out); (case side5 => exact cU (Kd.C_below HR2_0.out HB.out)); (case side6 => exact HC2_0.out); (case side7 => exact cU (Kd.C_below HR2_1.out HB.out)); (case side8 => exact HC2_1.out); rintro e w14 ⟨v436, rfl, ho0, hb⟩; refine ⟨_, rfl, ?_⟩; have HO437 := Aside0.mk (Kd.R_lower ho0 (below_size (bS3 HB.out GE432.out GE433.out GE434.out))); replace BK432 := Aside0.mk (blk_below (g := gb432) (o := .cells #[.slice A1_0 l1_0.length c1_0, .slice A1_1 l1_1.length c1_1] 26 (0, 0)) (kU BK432.out) hb); replace BK433 := Aside0.mk (blk_below (g := gb433) (o := .cells #[.slice A2_0 l2_0.length c2_0, .slice A2_1 l2_1.length c2_1] 26 (0, 0)) (kU BK433.out) hb); replace BK434 := Aside0.mk (blk_below (g := gb434) (o := .cells #[.slice none 0 0, .slice none 0 0] 26 (0, 0)) (kU BK434.out) hb); replace HB := Aside0.mk (below_step (bS3 HB.out GE432.out GE433.out GE434.out) hb); (try clear hb); (try clear hb2); (try clear hk); (try clear hi); (try clear ho0)))
 (try simp only [Act.put, List.setIfInBounds_toArray, List.set_cons_zero, List.set_cons_succ])
 go_cut [26] (fun v26 wc => ∃ (kq : Nat) (x26_4 : Bool), v26 = .bool x26_4 ∧ Aside0 (impl_EachTwo.j0 kq a0 t435 t438 x26_4 l1_0 l1_1 l2_0 l2_1 = some (r1, r2, r3)) ∧ Aside0 (kq ≤ k) ∧ Aside0 (Kd.R (Kd.int .i64) 3 wc w.heap.size (fun _ => True) v436 t435) ∧ Aside0 (wc.heap[gb432]? = some (.cells #[(.slice A1_0 l1_0.length c1_0), (.slice A1_1 l1_1.length c1_1)] 26 (0, 0))) ∧ Aside0 (wc.heap[gb433]? = some (.cells #[(.slice A2_0 l2_0.length c2_0), (.slice A2_1 l2_1.length c2_1)] 26 (0, 0))) ∧ Aside0 (wc.heap[gb434]? = some (.cells #[(.slice none 0 0), (.slice none 0 0)] 26 (0, 0))) ∧ Aside0 (Below w.heap.size w wc))
 case first =>
  have H := HC5.out
  clear HC5
  by_cases c15 : t438 = 1
  ·
   rw [if_pos c15] at H
   have c15b0 : (t438 == 1) = true := beq_iff_eq.mpr c15
   have c15b1 : (t438 != 1) = false := bne_eq_false_iff_eq.mpr c15
   clear c15
   (first | rw [c15b0] | (simp only [i64_w, i32_w]; rw [c15b0]) | skip)
   have H' := Aside0.mk H
   clear H
   go_wp2
   go_meet
   case rel => exact ⟨_, (true), (by first | rfl | (simp; done) | (simp [*]; done)), H', ⟨by first | omega | exact Nat.le_refl _⟩, ⟨by refine RU ?_; exact HO437.out⟩, ⟨by refine kU ?_; exact BK432.out⟩, ⟨by refine kU ?_; exact BK433.out⟩, ⟨by refine kU ?_; exact BK434.out⟩, ⟨by exact bS3 HB.out GE432.out GE433.out GE434.out⟩⟩
  ·
   rw [if_neg c15] at H
   have c15b0 : (t438 == 1) = false := beq_eq_false_iff_ne.mpr c15
   have c15b1 : (t438 != 1) = true := bne_iff_ne.mpr c15
   (first | rw [c15b0] | (simp only [i64_w, i32_w]; rw [c15b0]) | skip)
   replace H := Option.bind_eq_some_iff.mp H
   obtain ⟨t439, A160, H⟩ := H
   replace H : (impl_EachTwo.j0 k a0 t435 t438 (!t439) l1_0 l1_1 l2_0 l2_1) = some (r1, r2, r3) := H
   have A16 := Aside0.mk A160
   clear A160
   have H' := Aside0.mk H
   clear H
   go_wp2_with (first | (go_at_call 72; (repeat rw [i64_w]); (with_reducible refine (impl_twoSign.calls k a0 t439 _ A16.out).mono ?_); rintro e w' ⟨rfl, ⟨nd, rfl⟩⟩))
   go_meet
   case rel => exact ⟨_, (!t439), (by first | rfl | (simp; done) | (simp [*]; done)), H', ⟨by first | omega | exact Nat.le_refl _⟩, ⟨by refine RU ?_; exact HO437.out⟩, ⟨by refine kU ?_; exact BK432.out⟩, ⟨by refine kU ?_; exact BK433.out⟩, ⟨by refine kU ?_; exact BK434.out⟩, ⟨by exact bS3 HB.out GE432.out GE433.out GE434.out⟩⟩
 case rest =>
  clear HC5
  try clear c1
  try clear c2
  try clear p2
  try clear c9
  try clear c10
  try clear c12
  try clear c15
  try clear c15b0
  try clear c15b1
  try clear hcz11_0
  try clear hcz11_1
  try clear hcz13_0
  try clear hcz13_1
  try clear hfz11_0
  try clear hfz11_1
  try clear hfz13_0
  try clear hfz13_1
  obtain ⟨kq, x26_4, rfl, HA, HJ4, HO_8, BK432, BK433, BK434, HB⟩ := hcut
  cases kq with
  | zero => exact absurd HA.out (by simp [impl_EachTwo.j0])
  | succ kj4 =>
   have H := HA.out
   clear HA
   simp only [impl_EachTwo.j0] at H
   by_cases c17 : x26_4 = true
   ·
    subst c17
    have H1 : (some (([] : List Int), ([] : List Int), 1)) = some (r1, r2, r3) := by rw [if_pos rfl] at H; exact H
    clear H
    have H := H1
    clear H1
    simp only [Option.some.injEq, Prod.mk.injEq] at H
    obtain ⟨rfl, rfl, rfl⟩ := H
    have hnb18 := NB434_432.out
    have hnc18 := NB432_434.out
    have hnb19 := NB434_433.out
    have hnc19 := NB433_434.out
    have hcz20_0 : wc.cell? ⟨gb434, 0, none⟩ = some (.slice none 0 0) := (blk_cell BK434.out 0).trans rfl
    have hcz20_1 : wc.cell? ⟨gb434, 1, none⟩ = some (.slice none 0 0) := (blk_cell BK434.out 1).trans rfl
    have hfz20_0 := blk_frozen BK434.out 0
    have hfz20_1 := blk_frozen BK434.out 1
    go_wp2
    refine bodyPost_ret (results_ct rfl _ _ gb434 26 #[.slice none 0 0, .slice none 0 0] (0, 0) _ rfl (by refine kU ?_; refine blk_put (cs := #[.slice none 0 0, .slice none 0 0]) ?_ 1 _ rfl; refine kU ?_; refine blk_put (cs := #[.slice none 0 0, .slice none 0 0]) ?_ 0 _ rfl; refine kU ?_; exact BK434.out) Try.underlying26 rfl (by kernel_rfl)) rfl ?_
    exact ⟨_, _, by first | rfl | (simp [errW_none, errW_some] <;> rfl) | (simp [*, errW_none, errW_some] <;> rfl), by first | exact Kd.R_nil _ _ _ _ _ | exact Kd.N_nil _ _ _ _ _ | exact Kd.V_nil _ _ _ _ _ | exact Kd.Q_nil _ _ _ _ _ | exact Kd.S_nil _ _ _ _ _, by first | exact Kd.R_nil _ _ _ _ _ | exact Kd.N_nil _ _ _ _ _ | exact Kd.V_nil _ _ _ _ _ | exact Kd.Q_nil _ _ _ _ _ | exact Kd.S_nil _ _ _ _ _, by exact bS3 HB.out GE432.out GE433.out GE434.out⟩
   ·
    replace c17 := Bool.eq_false_iff.mpr c17
    subst c17
    have H1 : (if t438 = 0 then (impl_EachTwo.l0 kj4 a0 t435 0 l1_0 l1_1 l2_0 l2_1 t435 ([] : List Int)) else (some (([] : List Int), ([] : List Int), t438))) = some (r1, r2, r3) := by rw [if_neg (show ¬ (false = true) by decide)] at H; exact H
    clear H
    have H := H1
    clear H1
    by_cases c21 : t438 = 0
    ·
     rw [if_pos c21] at H
     have c21b0 : (t438 == 0) = true := beq_iff_eq.mpr c21
     have c21b1 : (t438 != 0) = false := bne_eq_false_iff_eq.mpr c21
     clear c21
     have H' := Aside0.mk H
     clear H
     obtain ⟨Ao22, co22, eo22⟩ := Kd.R_slice HO_8.out
     subst eo22
     go_wp2_with (first | ((with_reducible refine gate_dst (N := 10) rfl ?_); refine box_event ?hg (N := 10) ?hd (cs := #[.slice none 0 0, .slice none 0 0]) (t := 26) ?hr ?_; (case hd => rfl); (case hg => rfl); (case hr => first | (go_simp; done) | (go_simp; rfl)); intro gb440 hg w23 hbox hb; replace HO_8 := Aside0.mk (Kd.R_below (RU HO_8.out) hb); have BK440 := Aside0.mk (hbox); have GW440 := Aside0.mk ((by rw [hg]; exact (below_size (bS3 HB.out GE432.out GE433.out GE434.out)) : w.heap.size ≤ gb440)); have GE440 := Aside0.mk ((by rw [hg]; exact (below_size (bS3 HB.out GE432.out GE433.out GE434.out)) : w.heap.size ≤ gb440)); replace HB := Aside0.mk (below_step (bS3 HB.out GE432.out GE433.out GE434.out) hb); have NB432_440 := Aside0.mk ((by rw [hg]; exact Nat.ne_of_lt (blk_lt (g := gb432) (o := .cells #[.slice A1_0 l1_0.length c1_0, .slice A1_1 l1_1.length c1_1] 26 (0, 0)) (kU BK432.out)) : gb432 ≠ gb440)); have NB440_432 := Aside0.mk ((by rw [hg]; exact Nat.ne_of_gt (blk_lt (g := gb432) (o := .cells #[.slice A1_0 l1_0.length c1_0, .slice A1_1 l1_1.length c1_1] 26 (0, 0)) (kU BK432.out)) : gb440 ≠ gb432)); replace BK432 := Aside0.mk (blk_below (g := gb432) (o := .cells #[.slice A1_0 l1_0.length c1_0, .slice A1_1 l1_1.length c1_1] 26 (0, 0)) (kU BK432.out) hb); have NB433_440 := Aside0.mk ((by rw [hg]; exact Nat.ne_of_lt (blk_lt (g := gb433) (o := .cells #[.slice A2_0 l2_0.length c2_0, .slice A2_1 l2_1.length c2_1] 26 (0, 0)) (kU BK433.out)) : gb433 ≠ gb440)); have NB440_433 := Aside0.mk ((by rw [hg]; exact Nat.ne_of_gt (blk_lt (g := gb433) (o := .cells #[.slice A2_0 l2_0.length c2_0, .slice A2_1 l2_1.length c2_1] 26 (0, 0)) (kU BK433.out)) : gb440 ≠ gb433)); replace BK433 := Aside0.mk (blk_below (g := gb433) (o := .cells #[.slice A2_0 l2_0.length c2_0, .slice A2_1 l2_1.length c2_1] 26 (0, 0)) (kU BK433.out) hb); have NB434_440 := Aside0.mk ((by rw [hg]; exact Nat.ne_of_lt (blk_lt (g := gb434) (o := .cells #[.slice none 0 0, .slice none 0 0] 26 (0, 0)) (kU BK434.out)) : gb434 ≠ gb440)); have NB440_434 := Aside0.mk ((by rw [hg]; exact Nat.ne_of_gt (blk_lt (g := gb434) (o := .cells #[.slice none 0 0, .slice none 0 0] 26 (0, 0)) (kU BK434.out)) : gb440 ≠ gb434)); replace BK434 := Aside0.mk (blk_below (g := gb434) (o := .cells #[.slice none 0 0, .slice none 0 0] 26 (0, 0)) (kU BK434.out) hb); clear hb hbox hg; have hnb24 := NB440_432.out; have hnc24 := NB432_440.out; have hnb25 := NB440_433.out; have hnc25 := NB433_440.out; have hnb26 := NB440_434.out; have hnc26 := NB434_440.out; have hcz27_0 : w23.cell? ⟨gb440, 0, none⟩ = some (.slice none 0 0) := (blk_cell BK440.out 0).trans rfl; have hcz27_1 : w23.cell? ⟨gb440, 1, none⟩ = some (.slice none 0 0) := (blk_cell BK440.out 1).trans rfl; have hfz27_0 := blk_frozen BK440.out 0; have hfz27_1 := blk_frozen BK440.out 1))
     go_loopg [11] kj4 (fun kq v11 w' => ∃ (x11_2 : Int) (x441001_2 : List Int) (u441001 : Value), v11 = .int .i64 x11_2 ∧ Aside0 (impl_EachTwo.l0 kq a0 t435 x11_2 l1_0 l1_1 l2_0 l2_1 t435 x441001_2 = some (r1, r2, r3)) ∧ Aside0 (kq ≤ kj4) ∧ Aside0 (Kd.R (Kd.int .i64) 3 w' w.heap.size (fun k_ => some k_ ≠ (u441001 : Value).ownBlock) (.slice Ao22 t435.length co22) t435) ∧ Aside0 (Kd.R (Kd.int .i64) 3 w' w.heap.size (fun k_ => some k_ ≠ (u441001 : Value).ownBlock) (.slice Ao22 t435.length co22) t435) ∧ Aside0 (Kd.R (Kd.int .i64) 3 w' w.heap.size (fun k_ => some k_ ≠ ((.slice Ao22 t435.length co22) : Value).ownBlock ∧ some k_ ≠ ((.slice Ao22 t435.length co22) : Value).ownBlock) u441001 x441001_2) ∧ Aside0 (w'.heap[gb432]? = some (.cells #[(.slice A1_0 l1_0.length c1_0), (.slice A1_1 l1_1.length c1_1)] 26 (0, 0))) ∧ Aside0 (w'.heap[gb433]? = some (.cells #[(.slice A2_0 l2_0.length c2_0), (.slice A2_1 l2_1.length c2_1)] 26 (0, 0))) ∧ Aside0 (w'.heap[gb434]? = some (.cells #[(.slice none 0 0), (.slice none 0 0)] 26 (0, 0))) ∧ Aside0 (w'.heap[gb440]? = some (.cells #[(.slice Ao22 t435.length co22), u441001] 26 (0, 0))) ∧ Aside0 (Below w.heap.size w w'))
     case atStart => exact ⟨(0), (([] : List Int)), (.slice none 0 0), (by first | rfl | (simp; done) | (simp [*]; done)), H', ⟨Nat.le_refl _⟩, ⟨by refine RU ?_; exact Kd.R_mono (Kd.R_far (p := ⟨gb440, 1, none⟩) (Kd.R_far (p := ⟨gb440, 0, none⟩) (Kd.R_types HO_8.out BK440.out (by decide)) (fun _ hk => hk.2) (.slice Ao22 t435.length co22)) (fun _ hk => hk.2) (.slice none 0 0)) (fun _ hk => (by simp [Value.ownBlock]))⟩, ⟨by refine RU ?_; exact Kd.R_mono (Kd.R_far (p := ⟨gb440, 1, none⟩) (Kd.R_far (p := ⟨gb440, 0, none⟩) (Kd.R_types HO_8.out BK440.out (by decide)) (fun _ hk => hk.2) (.slice Ao22 t435.length co22)) (fun _ hk => hk.2) (.slice none 0 0)) (fun _ hk => (by simp [Value.ownBlock]))⟩, ⟨by first | exact Kd.R_nil _ _ _ _ _ | exact Kd.N_nil _ _ _ _ _ | exact Kd.V_nil _ _ _ _ _ | exact Kd.Q_nil _ _ _ _ _ | exact Kd.S_nil _ _ _ _ _⟩, ⟨by refine kU ?_; refine blk_far ?_ NB432_440.out _; refine kU ?_; refine blk_far ?_ NB432_440.out _; refine kU ?_; exact BK432.out⟩, ⟨by refine kU ?_; refine blk_far ?_ NB433_440.out _; refine kU ?_; refine blk_far ?_ NB433_440.out _; refine kU ?_; exact BK433.out⟩, ⟨by refine kU ?_; refine blk_far ?_ NB434_440.out _; refine kU ?_; refine blk_far ?_ NB434_440.out _; refine kU ?_; exact BK434.out⟩, ⟨by refine kU ?_; refine blk_put (cs := #[.slice Ao22 t435.length co22, .slice none 0 0]) ?_ 1 _ rfl; refine kU ?_; refine blk_put (cs := #[.slice none 0 0, .slice none 0 0]) ?_ 0 _ rfl; refine kU ?_; exact BK440.out⟩, ⟨by exact bS4 HB.out GE432.out GE433.out GE434.out GE440.out⟩⟩
     case round =>
      clear H'
      try clear c1
      try clear c2
      try clear p2
      try clear c9
      try clear c10
      try clear c12
      try clear c15
      try clear c15b0
      try clear c15b1
      try clear c17
      try clear c18
      try clear c19
      try clear c21
      try clear c21b0
      try clear c21b1
      try clear c24
      try clear c25
      try clear c26
      try clear hcz11_0
      try clear hcz11_1
      try clear hcz13_0
      try clear hcz13_1
      try clear hcz20_0
      try clear hcz20_1
      try clear hcz27_0
      try clear hcz27_1
      try clear hfz11_0
      try clear hfz11_1
      try clear hfz13_0
      try clear hfz13_1
      try clear hfz20_0
      try clear hfz20_1
      try clear hfz27_0
      try clear hfz27_1
      try clear p2
      obtain ⟨x11_2, x441001_2, u441001, rfl, HA, HK2, HO_8, HO_441000, HO_441001, BK432, BK433, BK434, BK440, HB⟩ := hrel
      cases gk with
      | zero => exact absurd HA.out (by simp [impl_EachTwo.l0])
      | succ k2 =>
       have H := HA.out
       clear HA
       simp only [impl_EachTwo.l0] at H
       replace H := Option.bind_eq_some_iff.mp H
       obtain ⟨t441, A280, H⟩ := H
       replace H : (if x11_2 < t441 then ((impl_at.f l1_0 l1_1 x11_2).bind fun t442 => ((impl_at.f l2_0 l2_1 x11_2).bind fun t443 => ((impl_Two.f k2 a0 t442 t443).bind fun bt444 => (if bt444.2 = 0 then (if x441001_2.length < 17592186044416 then (impl_EachTwo.l0 k2 a0 t435 (wrap64 (x11_2 + 1)) l1_0 l1_1 l2_0 l2_1 t435 (x441001_2 ++ [bt444.1])) else (none)) else (some (([] : List Int), ([] : List Int), bt444.2)))))) else (some (t435, x441001_2, 0))) = some (r1, r2, r3) := H
       have A28 := Aside0.mk A280
       clear A280
       by_cases c29 : x11_2 < t441
       ·
        rw [if_pos c29] at H
        have c29b0 : decide (x11_2 < t441) = true := decide_eq_true c29
        clear c29
        replace H := Option.bind_eq_some_iff.mp H
        obtain ⟨t442, A300, H⟩ := H
        replace H : ((impl_at.f l2_0 l2_1 x11_2).bind fun t443 => ((impl_Two.f k2 a0 t442 t443).bind fun bt444 => (if bt444.2 = 0 then (if x441001_2.length < 17592186044416 then (impl_EachTwo.l0 k2 a0 t435 (wrap64 (x11_2 + 1)) l1_0 l1_1 l2_0 l2_1 t435 (x441001_2 ++ [bt444.1])) else (none)) else (some (([] : List Int), ([] : List Int), bt444.2))))) = some (r1, r2, r3) := H
        have A30 := Aside0.mk A300
        clear A300
        replace H := Option.bind_eq_some_iff.mp H
        obtain ⟨t443, A310, H⟩ := H
        replace H : ((impl_Two.f k2 a0 t442 t443).bind fun bt444 => (if bt444.2 = 0 then (if x441001_2.length < 17592186044416 then (impl_EachTwo.l0 k2 a0 t435 (wrap64 (x11_2 + 1)) l1_0 l1_1 l2_0 l2_1 t435 (x441001_2 ++ [bt444.1])) else (none)) else (some (([] : List Int), ([] : List Int), bt444.2)))) = some (r1, r2, r3) := H
        have A31 := Aside0.mk A310
        clear A310
        replace H := Option.bind_eq_some_iff.mp H
        obtain ⟨⟨t444, t445⟩, A320, H⟩ := H
        replace H : (if t445 = 0 then (if x441001_2.length < 17592186044416 then (impl_EachTwo.l0 k2 a0 t435 (wrap64 (x11_2 + 1)) l1_0 l1_1 l2_0 l2_1 t435 (x441001_2 ++ [t444])) else (none)) else (some (([] : List Int), ([] : List Int), t445))) = some (r1, r2, r3) := H
        have A32 := Aside0.mk A320
        clear A320
        by_cases c33 : t445 = 0
        ·
         rw [if_pos c33] at H
         have c33b0 : (t445 == 0) = true := beq_iff_eq.mpr c33
         have c33b1 : (t445 != 0) = false := bne_eq_false_iff_eq.mpr c33
         clear c33
         by_cases c34 : x441001_2.length < 17592186044416
         ·
          rw [if_pos c34] at H
          have LMc34 := Aside0.mk c34
          clear c34
          obtain ⟨y446, hy446⟩ : ∃ y_ : List Int, y_ = (x441001_2 ++ [t444]) := ⟨_, rfl⟩
          replace H : (impl_EachTwo.l0 k2 a0 t435 (wrap64 (x11_2 + 1)) l1_0 l1_1 l2_0 l2_1 t435 y446) = some (r1, r2, r3) := by first | (rw [hy446]; with_reducible exact H) | (have H2_ := (Option.bind_some _ _).symm.trans H; rw [hy446]; with_reducible exact H2_) | (have H2_ := (Option.bind_some _ _).symm.trans H; with_reducible exact H2_) | with_reducible exact H | (rw [hy446]; exact H) | exact H
          have Ny446 := Aside0.mk hy446
          clear hy446
          have H' := Aside0.mk H
          clear H
          try go_wp2_with (first | ((with_reducible refine gate_callee (f := 44) rfl ?_); refine goesL_ (some 36) rfl rfl Try.func44 (by kernel_rfl) rfl #[.slice Ao22 t435.length co22] rfl lU ?_; (with_reducible refine (impl_SizeOf.calls k2 _ _ t435 t441 _ ?side1 ?side2 A28.out).mono ?_); (case side1 => exact cU (Kd.R_reads' HO_8.out).2.2); (case side2 => exact (Kd.R_reads' HO_8.out).2.1); rintro e w' ⟨rfl, ⟨nd, rfl⟩⟩; refine ⟨_, rfl, ?_⟩; (try (rw [drewN_self wr]; generalize hq_ : World.drewN wr _ = wr; have n0_ : Aside0 (Kd.R (Kd.int .i64) 3 wr w.heap.size (fun k_ => some k_ ≠ (u441001 : Value).ownBlock) (.slice Ao22 t435.length co22) t435) := ⟨by rw [← hq_]; exact (RU HO_441000.out)⟩; have n1_ : Aside0 (Kd.R (Kd.int .i64) 3 wr w.heap.size (fun k_ => some k_ ≠ (.slice Ao22 t435.length co22 : Value).ownBlock ∧ some k_ ≠ (.slice Ao22 t435.length co22 : Value).ownBlock) u441001 x441001_2) := ⟨by rw [← hq_]; exact (by refine RU ?_; exact Kd.R_mono HO_441001.out (fun _ hk => ⟨hk.2, hk.1⟩))⟩; have n2_ : Aside0 (Kd.R (Kd.int .i64) 3 wr w.heap.size (fun k_ => some k_ ≠ (u441001 : Value).ownBlock) (.slice Ao22 t435.length co22) t435) := ⟨by rw [← hq_]; exact (RU HO_8.out)⟩; have n3_ : Aside0 (wr.heap[gb432]? = some (.cells #[.slice A1_0 l1_0.length c1_0, .slice A1_1 l1_1.length c1_1] 26 (0, 0))) := ⟨by rw [← hq_]; exact (kU BK432.out)⟩; have n4_ : Aside0 (wr.heap[gb433]? = some (.cells #[.slice A2_0 l2_0.length c2_0, .slice A2_1 l2_1.length c2_1] 26 (0, 0))) := ⟨by rw [← hq_]; exact (kU BK433.out)⟩; have n5_ : Aside0 (wr.heap[gb434]? = some (.cells #[.slice none 0 0, .slice none 0 0] 26 (0, 0))) := ⟨by rw [← hq_]; exact (kU BK434.out)⟩; have n6_ : Aside0 (wr.heap[gb440]? = some (.cells #[.slice Ao22 t435.length co22, u441001] 26 (0, 0))) := ⟨by rw [← hq_]; exact (kU BK440.out)⟩; have n7_ : Aside0 (Below w.heap.size w wr) := ⟨by rw [← hq_]; exact (bS4 HB.out GE432.out GE433.out GE434.out GE440.out)⟩; clear HO_441000 HO_441001 HO_8 BK432 BK433 BK434 BK440 HB hq_; have HO_441000 := n0_; have HO_441001 := n1_; have HO_8 := n2_; have BK432 := n3_; have BK433 := n4_; have BK434 := n5_; have BK440 := n6_; have HB := n7_; clear n0_ n1_ n2_ n3_ n4_ n5_ n6_ n7_))))
          replace HO_8 := Aside0.mk (Kd.R_drew HO_8.out)
          replace HO_441000 := Aside0.mk (Kd.R_drew HO_441000.out)
          replace HO_441001 := Aside0.mk (Kd.R_drew HO_441001.out)
          replace BK432 := Aside0.mk (blk_drew BK432.out)
          replace BK433 := Aside0.mk (blk_drew BK433.out)
          replace BK434 := Aside0.mk (blk_drew BK434.out)
          replace BK440 := Aside0.mk (blk_drew BK440.out)
          replace HB := Aside0.mk (below_drew1 HB.out)
          refine start_ (n := 13) (S := fun w' => w'.cell? ⟨gb432, 0, none⟩ = some (.slice A1_0 l1_0.length c1_0) ∧ w'.cell? ⟨gb432, 1, none⟩ = some (.slice A1_1 l1_1.length c1_1) ∧ w'.cell? ⟨gb433, 0, none⟩ = some (.slice A2_0 l2_0.length c2_0) ∧ w'.cell? ⟨gb433, 1, none⟩ = some (.slice A2_1 l2_1.length c2_1)) (ds := []) #[false, false, false, false, false, false, false, false, false, false, false, false, false] (by kernel_rfl) rfl rfl ⟨(blk_cell BK432.out 0).trans rfl, (blk_cell BK432.out 1).trans rfl, (blk_cell BK433.out 0).trans rfl, (blk_cell BK433.out 1).trans rfl⟩ (fun hHeld => ?_); refine with_tabW impl_EachTwo.tab10 impl_EachTwo.bits10 (fun HT_ HW_ => ?_)
          generalize wr.drew = w35 at HO_8 HO_441000 HO_441001 BK432 BK433 BK434 BK440 HB hHeld ⊢
          refine pure_ (i := 0) (N := some 41) (v := ?_) (a' := ?_) #[true, false, false, false, false, false, false, false, false, false, false, false, false] rfl rfl (any_of HT_.out (by kernel_rfl)) (fun _ _ _ h => h) (Or.inl ⟨by rfl, ?_⟩) ?_ ?_
          rotate_left
          ·
           intro w'
           go_simp
           with_reducible rfl
          rotate_left
          ·
           simp only [Act.put, List.setIfInBounds_toArray, List.set_cons_zero, List.set_cons_succ, i64_w, i32_w]
           rfl
          refine pure_ (i := 2) (N := some 43) (v := ?_) (a' := ?_) #[true, false, true, false, false, false, false, false, false, false, false, false, false] rfl rfl (any_of HT_.out (by kernel_rfl)) (fun _ _ _ h => h) (Or.inl ⟨by rfl, ?_⟩) ?_ ?_
          rotate_left
          ·
           intro w'
           go_simp
           with_reducible rfl
          rotate_left
          ·
           simp only [Act.put, List.setIfInBounds_toArray, List.set_cons_zero, List.set_cons_succ, i64_w, i32_w]
           rfl
          refine pure_ (i := 5) (N := some 46) (v := ?_) (a' := ?_) #[true, false, true, false, false, true, false, false, false, false, false, false, false] rfl rfl (any_of HT_.out (by kernel_rfl)) (fun _ _ _ h => h) (Or.inl ⟨by rfl, ?_⟩) ?_ ?_
          rotate_left
          ·
           intro w'
           go_simp
           with_reducible rfl
          rotate_left
          ·
           simp only [Act.put, List.setIfInBounds_toArray, List.set_cons_zero, List.set_cons_succ, i64_w, i32_w]
           rfl
          refine take_ (i := 1) (N := some 42) (v := ?_) (a' := ?_) #[true, true, true, false, false, true, false, false, false, false, false, false, false] rfl rfl (take_ofW HT_.out HW_.out (by kernel_rfl)) (fun _ _ _ h => h) (Or.inl ⟨by rfl, ?_⟩) hHeld ?_ ?_
          rotate_left
          ·
           rintro w' ⟨s0, s1, s2, s3⟩
           go_simp
           with_reducible rfl
          rotate_left
          ·
           simp only [Act.put, List.setIfInBounds_toArray, List.set_cons_zero, List.set_cons_succ, i64_w, i32_w]
           rfl
          refine take_ (i := 4) (N := some 45) (v := ?_) (a' := ?_) #[true, true, true, false, true, true, false, false, false, false, false, false, false] rfl rfl (take_ofW HT_.out HW_.out (by kernel_rfl)) (fun _ _ _ h => h) (Or.inl ⟨by rfl, ?_⟩) hHeld ?_ ?_
          rotate_left
          ·
           rintro w' ⟨s0, s1, s2, s3⟩
           go_simp
           with_reducible rfl
          rotate_left
          ·
           simp only [Act.put, List.setIfInBounds_toArray, List.set_cons_zero, List.set_cons_succ, i64_w, i32_w]
           rfl
          refine one_ (i := 3) (N := some 44) #[true, true, true, true, true, true, false, false, false, false, false, false, false] rfl rfl (one_of HT_.out (by kernel_rfl)) (by decide) (fun K hK => ?_)
          refine goes_ Try.func73 (by kernel_rfl) rfl #[.agg #[.slice A1_0 l1_0.length c1_0, .slice A1_1 l1_1.length c1_1], .int .i64 x11_2] (by rfl) rfl rfl lU ?_
          with_reducible refine (impl_at.calls _ _ l1_0 _ _ l1_1 x11_2 t442 _ ?side1 ?side2 ?side3 ?side4 A30.out).mono ?_
          (case side1 => exact cU (Kd.C_below HR1_0.out HB.out))
          (case side2 => exact HC1_0.out)
          (case side3 => exact cU (Kd.C_below HR1_1.out HB.out))
          (case side4 => exact HC1_1.out)
          rintro e w36 ⟨rfl, hb⟩
          refine ⟨_, rfl, ?_⟩
          replace HO_8 := Aside0.mk (Kd.R_below (RU HO_8.out) hb)
          replace HO_441000 := Aside0.mk (Kd.R_below (RU HO_441000.out) hb)
          replace HO_441001 := Aside0.mk (Kd.R_below (RU HO_441001.out) hb)
          replace BK432 := Aside0.mk (blk_below (g := gb432) (o := .cells #[.slice A1_0 l1_0.length c1_0, .slice A1_1 l1_1.length c1_1] 26 (0, 0)) (kU BK432.out) hb)
          replace BK433 := Aside0.mk (blk_below (g := gb433) (o := .cells #[.slice A2_0 l2_0.length c2_0, .slice A2_1 l2_1.length c2_1] 26 (0, 0)) (kU BK433.out) hb)
          replace BK434 := Aside0.mk (blk_below (g := gb434) (o := .cells #[.slice none 0 0, .slice none 0 0] 26 (0, 0)) (kU BK434.out) hb)
          replace BK440 := Aside0.mk (blk_below (g := gb440) (o := .cells #[.slice Ao22 t435.length co22, u441001] 26 (0, 0)) (kU BK440.out) hb)
          replace HB := Aside0.mk (below_step (bS4 HB.out GE432.out GE433.out GE434.out GE440.out) hb)
          (try clear hb)
          (try clear hb2)
          (try clear hk)
          (try clear hi)
          refine hK.out _ _ ⟨(blk_cell BK432.out 0).trans rfl, (blk_cell BK432.out 1).trans rfl, (blk_cell BK433.out 0).trans rfl, (blk_cell BK433.out 1).trans rfl⟩ (fun hHeld => ?_)
          clear hK K
          refine norm_ (a' := ?_) ?_ ?_
          rotate_left
          ·
           show Act.put _ (some 44) _ = _
           simp only [Act.put, List.setIfInBounds_toArray, List.set_cons_zero, List.set_cons_succ, i64_w, i32_w]
           rfl
          refine one_ (i := 6) (N := some 47) #[true, true, true, true, true, true, true, false, false, false, false, false, false] rfl rfl (one_of HT_.out (by kernel_rfl)) (by decide) (fun K hK => ?_)
          refine goes_ Try.func73 (by kernel_rfl) rfl #[.agg #[.slice A2_0 l2_0.length c2_0, .slice A2_1 l2_1.length c2_1], .int .i64 x11_2] (by rfl) rfl rfl lU ?_
          with_reducible refine (impl_at.calls _ _ l2_0 _ _ l2_1 x11_2 t443 _ ?side1 ?side2 ?side3 ?side4 A31.out).mono ?_
          (case side1 => exact cU (Kd.C_below HR2_0.out HB.out))
          (case side2 => exact HC2_0.out)
          (case side3 => exact cU (Kd.C_below HR2_1.out HB.out))
          (case side4 => exact HC2_1.out)
          rintro e w37 ⟨rfl, hb⟩
          refine ⟨_, rfl, ?_⟩
          replace HO_8 := Aside0.mk (Kd.R_below (RU HO_8.out) hb)
          replace HO_441000 := Aside0.mk (Kd.R_below (RU HO_441000.out) hb)
          replace HO_441001 := Aside0.mk (Kd.R_below (RU HO_441001.out) hb)
          replace BK432 := Aside0.mk (blk_below (g := gb432) (o := .cells #[.slice A1_0 l1_0.length c1_0, .slice A1_1 l1_1.length c1_1] 26 (0, 0)) (kU BK432.out) hb)
          replace BK433 := Aside0.mk (blk_below (g := gb433) (o := .cells #[.slice A2_0 l2_0.length c2_0, .slice A2_1 l2_1.length c2_1] 26 (0, 0)) (kU BK433.out) hb)
          replace BK434 := Aside0.mk (blk_below (g := gb434) (o := .cells #[.slice none 0 0, .slice none 0 0] 26 (0, 0)) (kU BK434.out) hb)
          replace BK440 := Aside0.mk (blk_below (g := gb440) (o := .cells #[.slice Ao22 t435.length co22, u441001] 26 (0, 0)) (kU BK440.out) hb)
          replace HB := Aside0.mk (below_step (bS4 HB.out GE432.out GE433.out GE434.out GE440.out) hb)
          (try clear hb)
          (try clear hb2)
          (try clear hk)
          (try clear hi)
          refine hK.out _ _ ⟨(blk_cell BK432.out 0).trans rfl, (blk_cell BK432.out 1).trans rfl, (blk_cell BK433.out 0).trans rfl, (blk_cell BK433.out 1).trans rfl⟩ (fun hHeld => ?_)
          clear hK K
          refine norm_ (a' := ?_) ?_ ?_
          rotate_left
          ·
           show Act.put _ (some 47) _ = _
           simp only [Act.put, List.setIfInBounds_toArray, List.set_cons_zero, List.set_cons_succ, i64_w, i32_w]
           rfl
          refine one_ (i := 7) (N := some 48) #[true, true, true, true, true, true, true, true, false, false, false, false, false] rfl rfl (one_of HT_.out (by kernel_rfl)) (by decide) (fun K hK => ?_)
          refine goes_ Try.func22 (by kernel_rfl) rfl #[.int .i64 a0, .int .i64 t442, .int .i64 t443] (by rfl) rfl rfl lU ?_
          with_reducible refine (impl_Two.calls k2 a0 t442 t443 t444 t445 _ A32.out).mono ?_
          rintro e w38 ⟨rfl, hb⟩
          refine ⟨_, rfl, ?_⟩
          replace HO_8 := Aside0.mk (Kd.R_below (RU HO_8.out) hb)
          replace HO_441000 := Aside0.mk (Kd.R_below (RU HO_441000.out) hb)
          replace HO_441001 := Aside0.mk (Kd.R_below (RU HO_441001.out) hb)
          replace BK432 := Aside0.mk (blk_below (g := gb432) (o := .cells #[.slice A1_0 l1_0.length c1_0, .slice A1_1 l1_1.length c1_1] 26 (0, 0)) (kU BK432.out) hb)
          replace BK433 := Aside0.mk (blk_below (g := gb433) (o := .cells #[.slice A2_0 l2_0.length c2_0, .slice A2_1 l2_1.length c2_1] 26 (0, 0)) (kU BK433.out) hb)
          replace BK434 := Aside0.mk (blk_below (g := gb434) (o := .cells #[.slice none 0 0, .slice none 0 0] 26 (0, 0)) (kU BK434.out) hb)
          replace BK440 := Aside0.mk (blk_below (g := gb440) (o := .cells #[.slice Ao22 t435.length co22, u441001] 26 (0, 0)) (kU BK440.out) hb)
          replace HB := Aside0.mk (below_step (bS4 HB.out GE432.out GE433.out GE434.out GE440.out) hb)
          (try clear hb)
          (try clear hb2)
          (try clear hk)
          (try clear hi)
          refine hK.out _ _ ⟨(blk_cell BK432.out 0).trans rfl, (blk_cell BK432.out 1).trans rfl, (blk_cell BK433.out 0).trans rfl, (blk_cell BK433.out 1).trans rfl⟩ (fun hHeld => ?_)
          clear hK K
          refine norm_ (a' := ?_) ?_ ?_
          rotate_left
          ·
           show Act.put _ (some 48) _ = _
           simp only [Act.put, List.setIfInBounds_toArray, List.set_cons_zero, List.set_cons_succ, i64_w, i32_w]
           rfl
          refine pure_ (i := 8) (N := some 40) (v := ?_) (a' := ?_) #[true, true, true, true, true, true, true, true, true, false, false, false, false] rfl rfl (any_of HT_.out (by kernel_rfl)) (fun _ _ _ h => h) (Or.inl ⟨by rfl, ?_⟩) ?_ ?_
          rotate_left
          ·
           intro w'
           go_simp
           with_reducible rfl
          rotate_left
          ·
           simp only [Act.put, List.setIfInBounds_toArray, List.set_cons_zero, List.set_cons_succ, i64_w, i32_w]
           rfl
          refine pure_ (i := 9) (N := some 49) (v := ?_) (a' := ?_) #[true, true, true, true, true, true, true, true, true, true, false, false, false] rfl rfl (any_of HT_.out (by kernel_rfl)) (fun _ _ _ h => h) (Or.inl ⟨by rfl, ?_⟩) ?_ ?_
          rotate_left
          ·
           intro w'
           go_simp
           with_reducible rfl
          rotate_left
          ·
           simp only [Act.put, List.setIfInBounds_toArray, List.set_cons_zero, List.set_cons_succ, i64_w, i32_w]
           rfl
          refine pure_ (i := 10) (N := some 50) (v := ?_) (a' := ?_) #[true, true, true, true, true, true, true, true, true, true, true, false, false] rfl rfl (any_of HT_.out (by kernel_rfl)) (fun _ _ _ h => h) (Or.inl ⟨by rfl, ?_⟩) ?_ ?_
          rotate_left
          ·
           intro w'
           go_simp
           with_reducible rfl
          rotate_left
          ·
           simp only [Act.put, List.setIfInBounds_toArray, List.set_cons_zero, List.set_cons_succ, i64_w, i32_w]
           rfl
          refine pure_ (i := 11) (N := some 12) (v := ?_) (a' := ?_) #[true, true, true, true, true, true, true, true, true, true, true, true, false] rfl rfl (any_of HT_.out (by kernel_rfl)) (fun _ _ _ h => h) (Or.inl ⟨by rfl, ?_⟩) ?_ ?_
          rotate_left
          ·
           intro w'
           go_simp
           with_reducible rfl
          rotate_left
          ·
           simp only [Act.put, List.setIfInBounds_toArray, List.set_cons_zero, List.set_cons_succ, i64_w, i32_w]
           rfl
          refine pure_ (i := 12) (N := some 13) (v := ?_) (a' := ?_) #[true, true, true, true, true, true, true, true, true, true, true, true, true] rfl rfl (any_of HT_.out (by kernel_rfl)) (fun _ _ _ h => h) (Or.inl ⟨by rfl, ?_⟩) ?_ ?_
          rotate_left
          ·
           intro w'
           go_simp
           with_reducible rfl
          rotate_left
          ·
           simp only [Act.put, List.setIfInBounds_toArray, List.set_cons_zero, List.set_cons_succ, i64_w, i32_w]
           rfl
          refine done_ (done_of HT_.out (by kernel_rfl)) ?_
          have hnb39 := NB440_432.out
          have hnc39 := NB432_440.out
          have hnb40 := NB440_433.out
          have hnc40 := NB433_440.out
          have hnb41 := NB440_434.out
          have hnc41 := NB434_440.out
          have hcz42_0 : w38.cell? ⟨gb440, 0, none⟩ = some (.slice Ao22 t435.length co22) := (blk_cell BK440.out 0).trans rfl
          have hcz42_1 : w38.cell? ⟨gb440, 1, none⟩ = some (u441001) := (blk_cell BK440.out 1).trans rfl
          have hfz42_0 := blk_frozen BK440.out 0
          have hfz42_1 := blk_frozen BK440.out 1
          try go_wp2_with (first | ((with_reducible refine gate_builtin (b := .append) (xs := #[.tmp 56, .tmp 58]) rfl ?_); at_builtin; refine Kd.R_append (Kd.int .i64) (w0 := w) w.heap.size rfl (.tmp 56) (.tmp 58) 24 3 (.int .i64 0) 8 rfl Try.underlying24 info3 rfl (by decide) (by omega) u441001 x441001_2 t444 [.int .i64 t444] (fun k_ => some k_ ≠ (.slice Ao22 t435.length co22 : Value).ownBlock ∧ some k_ ≠ (.slice Ao22 t435.length co22 : Value).ownBlock) (fun _ => False) rfl rfl ?aP (fun _ hk => hk.elim) ?aF ?aO ?aB ?aS ?aL ?_; (case aP => exact rfl); (case aB => exact (bS4 HB.out GE432.out GE433.out GE434.out GE440.out)); (case aF => exact (fun k_ hk => ⟨Kd.fresh' (Kd.R_lt (RU HO_8.out)) k_ hk, Kd.fresh' (Kd.R_lt (RU HO_441000.out)) k_ hk⟩)); (case aO => exact (RU HO_441001.out)); (case aS => exact (below_size (bS4 HB.out GE432.out GE433.out GE434.out GE440.out))); (case aL => have := LMc34.out; omega); intro v447 w43 ho hb hg hat; rw [← Ny446.out] at ho; have n0_ := Aside0.mk (Kd.R_after (ok := (fun _ => True)) (by refine RU ?_; exact Kd.R_mono HO_8.out (fun _ hk => ⟨trivial, hk⟩)) hg hat); have n1_ := Aside0.mk (Kd.R_after (ok := (fun _ => True)) (by refine RU ?_; exact Kd.R_mono HO_441000.out (fun _ hk => ⟨trivial, hk⟩)) hg hat); have n2_ := Aside0.mk (blk_grown (g := gb432) (o := .cells #[.slice A1_0 l1_0.length c1_0, .slice A1_1 l1_1.length c1_1] 26 (0, 0)) (kU BK432.out) hg (Kd.R_ne HO_441001.out BK432.out (by decide))); have n3_ := Aside0.mk (blk_grown (g := gb433) (o := .cells #[.slice A2_0 l2_0.length c2_0, .slice A2_1 l2_1.length c2_1] 26 (0, 0)) (kU BK433.out) hg (Kd.R_ne HO_441001.out BK433.out (by decide))); have n4_ := Aside0.mk (blk_grown (g := gb434) (o := .cells #[.slice none 0 0, .slice none 0 0] 26 (0, 0)) (kU BK434.out) hg (Kd.R_ne HO_441001.out BK434.out (by decide))); have n5_ := Aside0.mk (blk_grown (g := gb440) (o := .cells #[.slice Ao22 t435.length co22, u441001] 26 (0, 0)) (kU BK440.out) hg (Kd.R_ne HO_441001.out BK440.out (by decide))); have n6_ := Aside0.mk (hb); have n7_ := Aside0.mk (ho); clear HO_8; clear HO_441000; clear BK432; clear BK433; clear BK434; clear BK440; clear HB; clear HO_441001; have HO_8 := n0_; have HO_441000 := n1_; have BK432 := n2_; have BK433 := n3_; have BK434 := n4_; have BK440 := n5_; have HB := n6_; have HO448 := n7_; clear n0_ n1_ n2_ n3_ n4_ n5_ n6_ n7_; clear ho hb hg hat; obtain ⟨Ao44, co44, eo44⟩ := Kd.R_slice HO448.out; subst eo44; have hcz45_0 : w43.cell? ⟨gb440, 0, none⟩ = some (.slice Ao22 t435.length co22) := (blk_cell BK440.out 0).trans rfl; have hcz45_1 : w43.cell? ⟨gb440, 1, none⟩ = some (u441001) := (blk_cell BK440.out 1).trans rfl; have hfz45_0 := blk_frozen BK440.out 0; have hfz45_1 := blk_frozen BK440.out 1))
          go_roundg k2
          case measure => have := HJ4.out; have := HK2.out; omega
          case rel => exact ⟨(wrap64 (x11_2 + 1)), (y446), (.slice Ao44 y446.length co44), (by first | rfl | (simp; done) | (simp [*]; done)), H', ⟨by have := HJ4.out; have := HK2.out; omega⟩, ⟨by refine RU ?_; exact Kd.R_mono (Kd.R_far (p := ⟨gb440, 1, none⟩) (Kd.R_types HO_8.out BK440.out (by decide)) (fun _ hk => hk.2) (.slice Ao44 y446.length co44)) (fun _ hk => hk.1.2)⟩, ⟨by refine RU ?_; exact Kd.R_mono (Kd.R_far (p := ⟨gb440, 1, none⟩) (Kd.R_types HO_441000.out BK440.out (by decide)) (fun _ hk => hk.2) (.slice Ao44 y446.length co44)) (fun _ hk => hk.1.2)⟩, ⟨by refine RU ?_; exact Kd.R_mono (Kd.R_far (p := ⟨gb440, 1, none⟩) (Kd.R_types HO448.out BK440.out (by decide)) (fun _ hk => hk.2) (.slice Ao44 y446.length co44)) (fun _ hk => ⟨hk.1.1, hk.1.2⟩)⟩, ⟨by refine kU ?_; refine blk_far ?_ NB432_440.out _; refine kU ?_; exact BK432.out⟩, ⟨by refine kU ?_; refine blk_far ?_ NB433_440.out _; refine kU ?_; exact BK433.out⟩, ⟨by refine kU ?_; refine blk_far ?_ NB434_440.out _; refine kU ?_; exact BK434.out⟩, ⟨by refine kU ?_; refine blk_put (cs := #[.slice Ao22 t435.length co22, u441001]) ?_ 1 _ rfl; refine kU ?_; exact BK440.out⟩, ⟨by exact bS4 HB.out GE432.out GE433.out GE434.out GE440.out⟩⟩
         ·
          rw [if_neg c34] at H
          exact absurd H (by simp)
        ·
         rw [if_neg c33] at H
         have c33b0 : (t445 == 0) = false := beq_eq_false_iff_ne.mpr c33
         have c33b1 : (t445 != 0) = true := bne_iff_ne.mpr c33
         simp only [Option.some.injEq, Prod.mk.injEq] at H
         obtain ⟨rfl, rfl, rfl⟩ := H
         try go_wp2_with (first | ((with_reducible refine gate_callee (f := 44) rfl ?_); refine goesL_ (some 36) rfl rfl Try.func44 (by kernel_rfl) rfl #[.slice Ao22 t435.length co22] rfl lU ?_; (with_reducible refine (impl_SizeOf.calls k2 _ _ t435 t441 _ ?side1 ?side2 A28.out).mono ?_); (case side1 => exact cU (Kd.R_reads' HO_8.out).2.2); (case side2 => exact (Kd.R_reads' HO_8.out).2.1); rintro e w' ⟨rfl, ⟨nd, rfl⟩⟩; refine ⟨_, rfl, ?_⟩; (try (rw [drewN_self wr]; generalize hq_ : World.drewN wr _ = wr; have n0_ : Aside0 (Kd.R (Kd.int .i64) 3 wr w.heap.size (fun k_ => some k_ ≠ (u441001 : Value).ownBlock) (.slice Ao22 t435.length co22) t435) := ⟨by rw [← hq_]; exact (RU HO_441000.out)⟩; have n1_ : Aside0 (Kd.R (Kd.int .i64) 3 wr w.heap.size (fun k_ => some k_ ≠ (.slice Ao22 t435.length co22 : Value).ownBlock ∧ some k_ ≠ (.slice Ao22 t435.length co22 : Value).ownBlock) u441001 x441001_2) := ⟨by rw [← hq_]; exact (by refine RU ?_; exact Kd.R_mono HO_441001.out (fun _ hk => ⟨hk.2, hk.1⟩))⟩; have n2_ : Aside0 (Kd.R (Kd.int .i64) 3 wr w.heap.size (fun k_ => some k_ ≠ (u441001 : Value).ownBlock) (.slice Ao22 t435.length co22) t435) := ⟨by rw [← hq_]; exact (RU HO_8.out)⟩; have n3_ : Aside0 (wr.heap[gb432]? = some (.cells #[.slice A1_0 l1_0.length c1_0, .slice A1_1 l1_1.length c1_1] 26 (0, 0))) := ⟨by rw [← hq_]; exact (kU BK432.out)⟩; have n4_ : Aside0 (wr.heap[gb433]? = some (.cells #[.slice A2_0 l2_0.length c2_0, .slice A2_1 l2_1.length c2_1] 26 (0, 0))) := ⟨by rw [← hq_]; exact (kU BK433.out)⟩; have n5_ : Aside0 (wr.heap[gb434]? = some (.cells #[.slice none 0 0, .slice none 0 0] 26 (0, 0))) := ⟨by rw [← hq_]; exact (kU BK434.out)⟩; have n6_ : Aside0 (wr.heap[gb440]? = some (.cells #[.slice Ao22 t435.length co22, u441001] 26 (0, 0))) := ⟨by rw [← hq_]; exact (kU BK440.out)⟩; have n7_ : Aside0 (Below w.heap.size w wr) := ⟨by rw [← hq_]; exact (bS4 HB.out GE432.out GE433.out GE434.out GE440.out)⟩; clear HO_441000 HO_441001 HO_8 BK432 BK433 BK434 BK440 HB hq_; have HO_441000 := n0_; have HO_441001 := n1_; have HO_8 := n2_; have BK432 := n3_; have BK433 := n4_; have BK434 := n5_; have BK440 := n6_; have HB := n7_; clear n0_ n1_ n2_ n3_ n4_ n5_ n6_ n7_))))
         replace HO_8 := Aside0.mk (Kd.R_drew HO_8.out)
         replace HO_441000 := Aside0.mk (Kd.R_drew HO_441000.out)
         replace HO_441001 := Aside0.mk (Kd.R_drew HO_441001.out)
         replace BK432 := Aside0.mk (blk_drew BK432.out)
         replace BK433 := Aside0.mk (blk_drew BK433.out)
         replace BK434 := Aside0.mk (blk_drew BK434.out)
         replace BK440 := Aside0.mk (blk_drew BK440.out)
         replace HB := Aside0.mk (below_drew1 HB.out)
         refine start_ (n := 13) (S := fun w' => w'.cell? ⟨gb432, 0, none⟩ = some (.slice A1_0 l1_0.length c1_0) ∧ w'.cell? ⟨gb432, 1, none⟩ = some (.slice A1_1 l1_1.length c1_1) ∧ w'.cell? ⟨gb433, 0, none⟩ = some (.slice A2_0 l2_0.length c2_0) ∧ w'.cell? ⟨gb433, 1, none⟩ = some (.slice A2_1 l2_1.length c2_1)) (ds := []) #[false, false, false, false, false, false, false, false, false, false, false, false, false] (by kernel_rfl) rfl rfl ⟨(blk_cell BK432.out 0).trans rfl, (blk_cell BK432.out 1).trans rfl, (blk_cell BK433.out 0).trans rfl, (blk_cell BK433.out 1).trans rfl⟩ (fun hHeld => ?_); refine with_tabW impl_EachTwo.tab10 impl_EachTwo.bits10 (fun HT_ HW_ => ?_)
         generalize wr.drew = w46 at HO_8 HO_441000 HO_441001 BK432 BK433 BK434 BK440 HB hHeld ⊢
         refine pure_ (i := 0) (N := some 41) (v := ?_) (a' := ?_) #[true, false, false, false, false, false, false, false, false, false, false, false, false] rfl rfl (any_of HT_.out (by kernel_rfl)) (fun _ _ _ h => h) (Or.inl ⟨by rfl, ?_⟩) ?_ ?_
         rotate_left
         ·
          intro w'
          go_simp
          with_reducible rfl
         rotate_left
         ·
          simp only [Act.put, List.setIfInBounds_toArray, List.set_cons_zero, List.set_cons_succ, i64_w, i32_w]
          rfl
         refine pure_ (i := 2) (N := some 43) (v := ?_) (a' := ?_) #[true, false, true, false, false, false, false, false, false, false, false, false, false] rfl rfl (any_of HT_.out (by kernel_rfl)) (fun _ _ _ h => h) (Or.inl ⟨by rfl, ?_⟩) ?_ ?_
         rotate_left
         ·
          intro w'
          go_simp
          with_reducible rfl
         rotate_left
         ·
          simp only [Act.put, List.setIfInBounds_toArray, List.set_cons_zero, List.set_cons_succ, i64_w, i32_w]
          rfl
         refine pure_ (i := 5) (N := some 46) (v := ?_) (a' := ?_) #[true, false, true, false, false, true, false, false, false, false, false, false, false] rfl rfl (any_of HT_.out (by kernel_rfl)) (fun _ _ _ h => h) (Or.inl ⟨by rfl, ?_⟩) ?_ ?_
         rotate_left
         ·
          intro w'
          go_simp
          with_reducible rfl
         rotate_left
         ·
          simp only [Act.put, List.setIfInBounds_toArray, List.set_cons_zero, List.set_cons_succ, i64_w, i32_w]
          rfl
         refine take_ (i := 1) (N := some 42) (v := ?_) (a' := ?_) #[true, true, true, false, false, true, false, false, false, false, false, false, false] rfl rfl (take_ofW HT_.out HW_.out (by kernel_rfl)) (fun _ _ _ h => h) (Or.inl ⟨by rfl, ?_⟩) hHeld ?_ ?_
         rotate_left
         ·
          rintro w' ⟨s0, s1, s2, s3⟩
          go_simp
          with_reducible rfl
         rotate_left
         ·
          simp only [Act.put, List.setIfInBounds_toArray, List.set_cons_zero, List.set_cons_succ, i64_w, i32_w]
          rfl
         refine take_ (i := 4) (N := some 45) (v := ?_) (a' := ?_) #[true, true, true, false, true, true, false, false, false, false, false, false, false] rfl rfl (take_ofW HT_.out HW_.out (by kernel_rfl)) (fun _ _ _ h => h) (Or.inl ⟨by rfl, ?_⟩) hHeld ?_ ?_
         rotate_left
         ·
          rintro w' ⟨s0, s1, s2, s3⟩
          go_simp
          with_reducible rfl
         rotate_left
         ·
          simp only [Act.put, List.setIfInBounds_toArray, List.set_cons_zero, List.set_cons_succ, i64_w, i32_w]
          rfl
         refine one_ (i := 3) (N := some 44) #[true, true, true, true, true, true, false, false, false, false, false, false, false] rfl rfl (one_of HT_.out (by kernel_rfl)) (by decide) (fun K hK => ?_)
         refine goes_ Try.func73 (by kernel_rfl) rfl #[.agg #[.slice A1_0 l1_0.length c1_0, .slice A1_1 l1_1.length c1_1], .int .i64 x11_2] (by rfl) rfl rfl lU ?_
         with_reducible refine (impl_at.calls _ _ l1_0 _ _ l1_1 x11_2 t442 _ ?side1 ?side2 ?side3 ?side4 A30.out).mono ?_
         (case side1 => exact cU (Kd.C_below HR1_0.out HB.out))
         (case side2 => exact HC1_0.out)
         (case side3 => exact cU (Kd.C_below HR1_1.out HB.out))
         (case side4 => exact HC1_1.out)
         rintro e w47 ⟨rfl, hb⟩
         refine ⟨_, rfl, ?_⟩
         replace HO_8 := Aside0.mk (Kd.R_below (RU HO_8.out) hb)
         replace HO_441000 := Aside0.mk (Kd.R_below (RU HO_441000.out) hb)
         replace HO_441001 := Aside0.mk (Kd.R_below (RU HO_441001.out) hb)
         replace BK432 := Aside0.mk (blk_below (g := gb432) (o := .cells #[.slice A1_0 l1_0.length c1_0, .slice A1_1 l1_1.length c1_1] 26 (0, 0)) (kU BK432.out) hb)
         replace BK433 := Aside0.mk (blk_below (g := gb433) (o := .cells #[.slice A2_0 l2_0.length c2_0, .slice A2_1 l2_1.length c2_1] 26 (0, 0)) (kU BK433.out) hb)
         replace BK434 := Aside0.mk (blk_below (g := gb434) (o := .cells #[.slice none 0 0, .slice none 0 0] 26 (0, 0)) (kU BK434.out) hb)
         replace BK440 := Aside0.mk (blk_below (g := gb440) (o := .cells #[.slice Ao22 t435.length co22, u441001] 26 (0, 0)) (kU BK440.out) hb)
         replace HB := Aside0.mk (below_step (bS4 HB.out GE432.out GE433.out GE434.out GE440.out) hb)
         (try clear hb)
         (try clear hb2)
         (try clear hk)
         (try clear hi)
         refine hK.out _ _ ⟨(blk_cell BK432.out 0).trans rfl, (blk_cell BK432.out 1).trans rfl, (blk_cell BK433.out 0).trans rfl, (blk_cell BK433.out 1).trans rfl⟩ (fun hHeld => ?_)
         clear hK K
         refine norm_ (a' := ?_) ?_ ?_
         rotate_left
         ·
          show Act.put _ (some 44) _ = _
          simp only [Act.put, List.setIfInBounds_toArray, List.set_cons_zero, List.set_cons_succ, i64_w, i32_w]
          rfl
         refine one_ (i := 6) (N := some 47) #[true, true, true, true, true, true, true, false, false, false, false, false, false] rfl rfl (one_of HT_.out (by kernel_rfl)) (by decide) (fun K hK => ?_)
         refine goes_ Try.func73 (by kernel_rfl) rfl #[.agg #[.slice A2_0 l2_0.length c2_0, .slice A2_1 l2_1.length c2_1], .int .i64 x11_2] (by rfl) rfl rfl lU ?_
         with_reducible refine (impl_at.calls _ _ l2_0 _ _ l2_1 x11_2 t443 _ ?side1 ?side2 ?side3 ?side4 A31.out).mono ?_
         (case side1 => exact cU (Kd.C_below HR2_0.out HB.out))
         (case side2 => exact HC2_0.out)
         (case side3 => exact cU (Kd.C_below HR2_1.out HB.out))
         (case side4 => exact HC2_1.out)
         rintro e w48 ⟨rfl, hb⟩
         refine ⟨_, rfl, ?_⟩
         replace HO_8 := Aside0.mk (Kd.R_below (RU HO_8.out) hb)
         replace HO_441000 := Aside0.mk (Kd.R_below (RU HO_441000.out) hb)
         replace HO_441001 := Aside0.mk (Kd.R_below (RU HO_441001.out) hb)
         replace BK432 := Aside0.mk (blk_below (g := gb432) (o := .cells #[.slice A1_0 l1_0.length c1_0, .slice A1_1 l1_1.length c1_1] 26 (0, 0)) (kU BK432.out) hb)
         replace BK433 := Aside0.mk (blk_below (g := gb433) (o := .cells #[.slice A2_0 l2_0.length c2_0, .slice A2_1 l2_1.length c2_1] 26 (0, 0)) (kU BK433.out) hb)
         replace BK434 := Aside0.mk (blk_below (g := gb434) (o := .cells #[.slice none 0 0, .slice none 0 0] 26 (0, 0)) (kU BK434.out) hb)
         replace BK440 := Aside0.mk (blk_below (g := gb440) (o := .cells #[.slice Ao22 t435.length co22, u441001] 26 (0, 0)) (kU BK440.out) hb)
         replace HB := Aside0.mk (below_step (bS4 HB.out GE432.out GE433.out GE434.out GE440.out) hb)
         (try clear hb)
         (try clear hb2)
         (try clear hk)
         (try clear hi)
         refine hK.out _ _ ⟨(blk_cell BK432.out 0).trans rfl, (blk_cell BK432.out 1).trans rfl, (blk_cell BK433.out 0).trans rfl, (blk_cell BK433.out 1).trans rfl⟩ (fun hHeld => ?_)
         clear hK K
         refine norm_ (a' := ?_) ?_ ?_
         rotate_left
         ·
          show Act.put _ (some 47) _ = _
          simp only [Act.put, List.setIfInBounds_toArray, List.set_cons_zero, List.set_cons_succ, i64_w, i32_w]
          rfl
         refine one_ (i := 7) (N := some 48) #[true, true, true, true, true, true, true, true, false, false, false, false, false] rfl rfl (one_of HT_.out (by kernel_rfl)) (by decide) (fun K hK => ?_)
         refine goes_ Try.func22 (by kernel_rfl) rfl #[.int .i64 a0, .int .i64 t442, .int .i64 t443] (by rfl) rfl rfl lU ?_
         with_reducible refine (impl_Two.calls k2 a0 t442 t443 t444 t445 _ A32.out).mono ?_
         rintro e w49 ⟨rfl, hb⟩
         refine ⟨_, rfl, ?_⟩
         replace HO_8 := Aside0.mk (Kd.R_below (RU HO_8.out) hb)
         replace HO_441000 := Aside0.mk (Kd.R_below (RU HO_441000.out) hb)
         replace HO_441001 := Aside0.mk (Kd.R_below (RU HO_441001.out) hb)
         replace BK432 := Aside0.mk (blk_below (g := gb432) (o := .cells #[.slice A1_0 l1_0.length c1_0, .slice A1_1 l1_1.length c1_1] 26 (0, 0)) (kU BK432.out) hb)
         replace BK433 := Aside0.mk (blk_below (g := gb433) (o := .cells #[.slice A2_0 l2_0.length c2_0, .slice A2_1 l2_1.length c2_1] 26 (0, 0)) (kU BK433.out) hb)
         replace BK434 := Aside0.mk (blk_below (g := gb434) (o := .cells #[.slice none 0 0, .slice none 0 0] 26 (0, 0)) (kU BK434.out) hb)
         replace BK440 := Aside0.mk (blk_below (g := gb440) (o := .cells #[.slice Ao22 t435.length co22, u441001] 26 (0, 0)) (kU BK440.out) hb)
         replace HB := Aside0.mk (below_step (bS4 HB.out GE432.out GE433.out GE434.out GE440.out) hb)
         (try clear hb)
         (try clear hb2)
         (try clear hk)
         (try clear hi)
         refine hK.out _ _ ⟨(blk_cell BK432.out 0).trans rfl, (blk_cell BK432.out 1).trans rfl, (blk_cell BK433.out 0).trans rfl, (blk_cell BK433.out 1).trans rfl⟩ (fun hHeld => ?_)
         clear hK K
         refine norm_ (a' := ?_) ?_ ?_
         rotate_left
         ·
          show Act.put _ (some 48) _ = _
          simp only [Act.put, List.setIfInBounds_toArray, List.set_cons_zero, List.set_cons_succ, i64_w, i32_w]
          rfl
         refine pure_ (i := 8) (N := some 40) (v := ?_) (a' := ?_) #[true, true, true, true, true, true, true, true, true, false, false, false, false] rfl rfl (any_of HT_.out (by kernel_rfl)) (fun _ _ _ h => h) (Or.inl ⟨by rfl, ?_⟩) ?_ ?_
         rotate_left
         ·
          intro w'
          go_simp
          with_reducible rfl
         rotate_left
         ·
          simp only [Act.put, List.setIfInBounds_toArray, List.set_cons_zero, List.set_cons_succ, i64_w, i32_w]
          rfl
         refine pure_ (i := 9) (N := some 49) (v := ?_) (a' := ?_) #[true, true, true, true, true, true, true, true, true, true, false, false, false] rfl rfl (any_of HT_.out (by kernel_rfl)) (fun _ _ _ h => h) (Or.inl ⟨by rfl, ?_⟩) ?_ ?_
         rotate_left
         ·
          intro w'
          go_simp
          with_reducible rfl
         rotate_left
         ·
          simp only [Act.put, List.setIfInBounds_toArray, List.set_cons_zero, List.set_cons_succ, i64_w, i32_w]
          rfl
         refine pure_ (i := 10) (N := some 50) (v := ?_) (a' := ?_) #[true, true, true, true, true, true, true, true, true, true, true, false, false] rfl rfl (any_of HT_.out (by kernel_rfl)) (fun _ _ _ h => h) (Or.inl ⟨by rfl, ?_⟩) ?_ ?_
         rotate_left
         ·
          intro w'
          go_simp
          with_reducible rfl
         rotate_left
         ·
          simp only [Act.put, List.setIfInBounds_toArray, List.set_cons_zero, List.set_cons_succ, i64_w, i32_w]
          rfl
         refine pure_ (i := 11) (N := some 12) (v := ?_) (a' := ?_) #[true, true, true, true, true, true, true, true, true, true, true, true, false] rfl rfl (any_of HT_.out (by kernel_rfl)) (fun _ _ _ h => h) (Or.inl ⟨by rfl, ?_⟩) ?_ ?_
         rotate_left
         ·
          intro w'
          go_simp
          with_reducible rfl
         rotate_left
         ·
          simp only [Act.put, List.setIfInBounds_toArray, List.set_cons_zero, List.set_cons_succ, i64_w, i32_w]
          rfl
         refine pure_ (i := 12) (N := some 13) (v := ?_) (a' := ?_) #[true, true, true, true, true, true, true, true, true, true, true, true, true] rfl rfl (any_of HT_.out (by kernel_rfl)) (fun _ _ _ h => h) (Or.inl ⟨by rfl, ?_⟩) ?_ ?_
         rotate_left
         ·
          intro w'
          go_simp
          with_reducible rfl
         rotate_left
         ·
          simp only [Act.put, List.setIfInBounds_toArray, List.set_cons_zero, List.set_cons_succ, i64_w, i32_w]
          rfl
         refine done_ (done_of HT_.out (by kernel_rfl)) ?_
         have hnb50 := NB434_432.out
         have hnc50 := NB432_434.out
         have hnb51 := NB434_433.out
         have hnc51 := NB433_434.out
         have hnb52 := NB434_440.out
         have hnc52 := NB440_434.out
         have hcz53_0 : w49.cell? ⟨gb434, 0, none⟩ = some (.slice none 0 0) := (blk_cell BK434.out 0).trans rfl
         have hcz53_1 : w49.cell? ⟨gb434, 1, none⟩ = some (.slice none 0 0) := (blk_cell BK434.out 1).trans rfl
         have hfz53_0 := blk_frozen BK434.out 0
         have hfz53_1 := blk_frozen BK434.out 1
         try go_wp2
         refine bodyPost_ret (results_ct rfl _ _ gb434 26 #[.slice none 0 0, .slice none 0 0] (0, 0) _ rfl (by refine kU ?_; refine blk_put (cs := #[.slice none 0 0, .slice none 0 0]) ?_ 1 _ rfl; refine kU ?_; refine blk_put (cs := #[.slice none 0 0, .slice none 0 0]) ?_ 0 _ rfl; refine kU ?_; exact BK434.out) Try.underlying26 rfl (by kernel_rfl)) rfl ?_
         exact ⟨_, _, by first | rfl | (simp [errW_none, errW_some] <;> rfl) | (simp [*, errW_none, errW_some] <;> rfl), by first | exact Kd.R_nil _ _ _ _ _ | exact Kd.N_nil _ _ _ _ _ | exact Kd.V_nil _ _ _ _ _ | exact Kd.Q_nil _ _ _ _ _ | exact Kd.S_nil _ _ _ _ _, by first | exact Kd.R_nil _ _ _ _ _ | exact Kd.N_nil _ _ _ _ _ | exact Kd.V_nil _ _ _ _ _ | exact Kd.Q_nil _ _ _ _ _ | exact Kd.S_nil _ _ _ _ _, by exact bS4 HB.out GE432.out GE433.out GE434.out GE440.out⟩
       ·
        rw [if_neg c29] at H
        have c29b0 : decide (x11_2 < t441) = false := decide_eq_false c29
        clear c29
        simp only [Option.some.injEq, Prod.mk.injEq] at H
        obtain ⟨rfl, rfl, rfl⟩ := H
        go_wp2_with (first | ((with_reducible refine gate_callee (f := 44) rfl ?_); refine goesL_ (some 36) rfl rfl Try.func44 (by kernel_rfl) rfl #[.slice Ao22 t435.length co22] rfl lU ?_; (with_reducible refine (impl_SizeOf.calls k2 _ _ t435 t441 _ ?side1 ?side2 A28.out).mono ?_); (case side1 => exact cU (Kd.R_reads' HO_8.out).2.2); (case side2 => exact (Kd.R_reads' HO_8.out).2.1); rintro e w' ⟨rfl, ⟨nd, rfl⟩⟩; refine ⟨_, rfl, ?_⟩; (try (rw [drewN_self wr]; generalize hq_ : World.drewN wr _ = wr; have n0_ : Aside0 (Kd.R (Kd.int .i64) 3 wr w.heap.size (fun k_ => some k_ ≠ (u441001 : Value).ownBlock) (.slice Ao22 t435.length co22) t435) := ⟨by rw [← hq_]; exact (RU HO_441000.out)⟩; have n1_ : Aside0 (Kd.R (Kd.int .i64) 3 wr w.heap.size (fun k_ => some k_ ≠ (.slice Ao22 t435.length co22 : Value).ownBlock ∧ some k_ ≠ (.slice Ao22 t435.length co22 : Value).ownBlock) u441001 x441001_2) := ⟨by rw [← hq_]; exact (by refine RU ?_; exact Kd.R_mono HO_441001.out (fun _ hk => ⟨hk.2, hk.1⟩))⟩; have n2_ : Aside0 (Kd.R (Kd.int .i64) 3 wr w.heap.size (fun k_ => some k_ ≠ (u441001 : Value).ownBlock) (.slice Ao22 t435.length co22) t435) := ⟨by rw [← hq_]; exact (RU HO_8.out)⟩; have n3_ : Aside0 (wr.heap[gb432]? = some (.cells #[.slice A1_0 l1_0.length c1_0, .slice A1_1 l1_1.length c1_1] 26 (0, 0))) := ⟨by rw [← hq_]; exact (kU BK432.out)⟩; have n4_ : Aside0 (wr.heap[gb433]? = some (.cells #[.slice A2_0 l2_0.length c2_0, .slice A2_1 l2_1.length c2_1] 26 (0, 0))) := ⟨by rw [← hq_]; exact (kU BK433.out)⟩; have n5_ : Aside0 (wr.heap[gb434]? = some (.cells #[.slice none 0 0, .slice none 0 0] 26 (0, 0))) := ⟨by rw [← hq_]; exact (kU BK434.out)⟩; have n6_ : Aside0 (wr.heap[gb440]? = some (.cells #[.slice Ao22 t435.length co22, u441001] 26 (0, 0))) := ⟨by rw [← hq_]; exact (kU BK440.out)⟩; have n7_ : Aside0 (Below w.heap.size w wr) := ⟨by rw [← hq_]; exact (bS4 HB.out GE432.out GE433.out GE434.out GE440.out)⟩; clear HO_441000 HO_441001 HO_8 BK432 BK433 BK434 BK440 HB hq_; have HO_441000 := n0_; have HO_441001 := n1_; have HO_8 := n2_; have BK432 := n3_; have BK433 := n4_; have BK434 := n5_; have BK440 := n6_; have HB := n7_; clear n0_ n1_ n2_ n3_ n4_ n5_ n6_ n7_)); have hnb54 := NB440_432.out; have hnc54 := NB432_440.out; have hnb55 := NB440_433.out; have hnc55 := NB433_440.out; have hnb56 := NB440_434.out; have hnc56 := NB434_440.out; have hcz57_0 : wr.cell? ⟨gb440, 0, none⟩ = some (.slice Ao22 t435.length co22) := (blk_cell BK440.out 0).trans rfl; have hcz57_1 : wr.cell? ⟨gb440, 1, none⟩ = some (u441001) := (blk_cell BK440.out 1).trans rfl; have hfz57_0 := blk_frozen BK440.out 0; have hfz57_1 := blk_frozen BK440.out 1; have hnb58 := NB434_432.out; have hnc58 := NB432_434.out; have hnb59 := NB434_433.out; have hnc59 := NB433_434.out; have hcz60_0 : wr.cell? ⟨gb434, 0, none⟩ = some (.slice none 0 0) := (blk_cell BK434.out 0).trans rfl; have hcz60_1 : wr.cell? ⟨gb434, 1, none⟩ = some (.slice none 0 0) := (blk_cell BK434.out 1).trans rfl; have hfz60_0 := blk_frozen BK434.out 0; have hfz60_1 := blk_frozen BK434.out 1; obtain ⟨Ao61, co61, eo61⟩ := Kd.R_slice HO_441001.out; subst eo61))
        refine bodyPost_ret (results_ct rfl _ _ gb434 26 #[.slice Ao22 t435.length co22, .slice Ao61 x441001_2.length co61] (0, 0) _ rfl (by refine kU ?_; refine blk_put (cs := #[.slice Ao22 t435.length co22, .slice none 0 0]) ?_ 1 _ rfl; refine kU ?_; refine blk_put (cs := #[.slice none 0 0, .slice none 0 0]) ?_ 0 _ rfl; refine kU ?_; exact BK434.out) Try.underlying26 rfl (by kernel_rfl)) rfl ?_
        exact ⟨_, _, by first | rfl | (simp [errW_none, errW_some] <;> rfl) | (simp [*, errW_none, errW_some] <;> rfl), by refine RU ?_; exact Kd.R_mono (Kd.R_far (p := ⟨gb434, 1, none⟩) (Kd.R_far (p := ⟨gb434, 0, none⟩) (Kd.R_types HO_441000.out BK434.out (by decide)) (fun _ hk => hk.2) (.slice Ao22 t435.length co22)) (fun _ hk => hk.2) (.slice Ao61 x441001_2.length co61)) (fun _ hk => hk.1), by refine RU ?_; exact Kd.R_mono (Kd.R_far (p := ⟨gb434, 1, none⟩) (Kd.R_far (p := ⟨gb434, 0, none⟩) (Kd.R_types HO_441001.out BK434.out (by decide)) (fun _ hk => hk.2) (.slice Ao22 t435.length co22)) (fun _ hk => hk.2) (.slice Ao61 x441001_2.length co61)) (fun _ hk => hk.1.2), by exact bS4 HB.out GE432.out GE433.out GE434.out GE440.out⟩
    ·
     rw [if_neg c21] at H
     have c21b0 : (t438 == 0) = false := beq_eq_false_iff_ne.mpr c21
     have c21b1 : (t438 != 0) = true := bne_iff_ne.mpr c21
     simp only [Option.some.injEq, Prod.mk.injEq] at H
     obtain ⟨rfl, rfl, rfl⟩ := H
     have hnb62 := NB434_432.out
     have hnc62 := NB432_434.out
     have hnb63 := NB434_433.out
     have hnc63 := NB433_434.out
     have hcz64_0 : wc.cell? ⟨gb434, 0, none⟩ = some (.slice none 0 0) := (blk_cell BK434.out 0).trans rfl
     have hcz64_1 : wc.cell? ⟨gb434, 1, none⟩ = some (.slice none 0 0) := (blk_cell BK434.out 1).trans rfl
     have hfz64_0 := blk_frozen BK434.out 0
     have hfz64_1 := blk_frozen BK434.out 1
     go_wp2
     refine bodyPost_ret (results_ct rfl _ _ gb434 26 #[.slice none 0 0, .slice none 0 0] (0, 0) _ rfl (by refine kU ?_; refine blk_put (cs := #[.slice none 0 0, .slice none 0 0]) ?_ 1 _ rfl; refine kU ?_; refine blk_put (cs := #[.slice none 0 0, .slice none 0 0]) ?_ 0 _ rfl; refine kU ?_; exact BK434.out) Try.underlying26 rfl (by kernel_rfl)) rfl ?_
     exact ⟨_, _, by first | rfl | (simp [errW_none, errW_some] <;> rfl) | (simp [*, errW_none, errW_some] <;> rfl), by first | exact Kd.R_nil _ _ _ _ _ | exact Kd.N_nil _ _ _ _ _ | exact Kd.V_nil _ _ _ _ _ | exact Kd.Q_nil _ _ _ _ _ | exact Kd.S_nil _ _ _ _ _, by first | exact Kd.R_nil _ _ _ _ _ | exact Kd.N_nil _ _ _ _ _ | exact Kd.V_nil _ _ _ _ _ | exact Kd.Q_nil _ _ _ _ _ | exact Kd.S_nil _ _ _ _ _, by exact bS3 HB.out GE432.out GE433.out GE434.out⟩

end Go.Proofs.Ytlaikodjcjfeiaa.PFnEach
