/- The walk of what a law reaches, for the law's row: written by a program of this session; it has no condition of its own. -/
import Derived.Test.YtlaikodjcjfeiaaPFnEachx0
import Derived.Test.YtlaikodjcjfeiaaQ
namespace Go.Proofs.Ytlaikodjcjfeiaa.PFnEach
open Go.RowKit Go.Proofs.YtlaikodjcjfeiaaW.PrintWords Go.Proofs.YtlaikodjcjfeiaaW.PrintLast Go.Proofs.YtlaikodjcjfeiaaW.PrintMore Go.Proofs.YtlaikodjcjfeiaaQ
attribute [local go_sem] max2_int min2_int max_two min_two max_three min_three max_four min_four   -- for this text's walks alone
set_option linter.unusedVariables false
set_option linter.unusedSimpArgs false

/-! ### spec_l4Of: function 76 -/
def spec_l4Of.f (l0_0 : List Int) (l0_1 : List Int) (a1 : Int) : Option (Int) := if (l0_0.length : Int) = 0 then (if 0 < (l0_1.length : Int) then (some (rd l0_1 0)) else (none)) else (if 0 ≤ a1 then (if a1 < (l0_1.length : Int) then (some (rd l0_1 a1)) else (none)) else (none))
set_option maxHeartbeats 8000000 in
set_option maxRecDepth 100000 in
theorem spec_l4Of.calls (A0_0 : Option Addr) (c0_0 : Nat) (l0_0 : List Int) (A0_1 : Option Addr) (c0_1 : Nat) (l0_1 : List Int) (a1 : Int) (r : Int) (w : World) (hr0_0 : Kd.C (Kd.int .i64) w A0_0 l0_0.length l0_0) (hc0_0 : l0_0.length ≤ c0_0) (hr0_1 : Kd.C (Kd.int .i64) w A0_1 l0_1.length l0_1) (hc0_1 : l0_1.length ≤ c0_1) (h : spec_l4Of.f l0_0 l0_1 a1 = some r) :
  Calls Try.prog 76 #[.agg #[.slice A0_0 l0_0.length c0_0, .slice A0_1 l0_1.length c0_1], .int .i64 a1] w fun e w' => e = .returned (.int .i64 r) ∧ Below w.heap.size w w' := by
 have hu26 := Try.underlying26
 have HR0_0 := Aside0.mk hr0_0
 have HC0_0 := Aside0.mk hc0_0
 clear hr0_0 hc0_0
 have HR0_1 := Aside0.mk hr0_1
 have HC0_1 := Aside0.mk hc0_1
 clear hr0_1 hc0_1
 have HB := Aside0.mk (Below.refl w.heap.size w)
 have H : (if (l0_0.length : Int) = 0 then (if 0 < (l0_1.length : Int) then (some (rd l0_1 0)) else (none)) else (if 0 ≤ a1 then (if a1 < (l0_1.length : Int) then (some (rd l0_1 a1)) else (none)) else (none))) = some r := h
 clear h
 by_cases c3 : (l0_0.length : Int) = 0
 ·
  rw [if_pos c3] at H
  have c3b0 : ((l0_0.length : Int) == 0) = true := beq_iff_eq.mpr c3
  have c3b1 : ((l0_0.length : Int) != 0) = false := bne_eq_false_iff_eq.mpr c3
  clear c3
  by_cases c4 : 0 < (l0_1.length : Int)
  ·
   rw [if_pos c4] at H
   have c4b0 : decide (0 < (l0_1.length : Int)) = true := decide_eq_true c4
   have c4b1 : decide (0 < l0_1.length) = true := decide_eq_true (by omega)
   clear c4
   obtain rfl := Option.some.inj H
   go_enter Try.func76, Try.ntmps76
   go_wp2_with (first | ((with_reducible refine gate_dst (N := 2) rfl ?_); refine box_event ?hg (N := 2) ?hd (cs := #[.slice A0_0 l0_0.length c0_0, .slice A0_1 l0_1.length c0_1]) (t := 26) ?hr ?_; (case hd => rfl); (case hg => rfl); (case hr => first | (go_simp; done) | (go_simp; rfl)); intro gb514 hg w5 hbox hb; have BK514 := Aside0.mk (hbox); have GW514 := Aside0.mk ((by rw [hg]; exact (below_size (bU HB.out)) : w.heap.size ≤ gb514)); have GE514 := Aside0.mk ((by rw [hg]; exact (below_size (bU HB.out)) : w.heap.size ≤ gb514)); replace HB := Aside0.mk (below_step (bU HB.out) hb); clear hb hbox hg; have hcz6_0 : w5.cell? ⟨gb514, 0, none⟩ = some (.slice A0_0 l0_0.length c0_0) := (blk_cell BK514.out 0).trans rfl; have hcz6_1 : w5.cell? ⟨gb514, 1, none⟩ = some (.slice A0_1 l0_1.length c0_1) := (blk_cell BK514.out 1).trans rfl; have hfz6_0 := blk_frozen BK514.out 0; have hfz6_1 := blk_frozen BK514.out 1; have p515 : 0 ≤ (0 : Int) := (by omega); have q515 : 0 < (l0_1.length : Int) := of_decide_eq_true (by first | (with_reducible assumption) | assumption); obtain ⟨ad515, e515, hx515_0⟩ := Kd.at_int HR0_1.out 0 p515 q515; cases e515; have qi515 : (0 < l0_1.length) = True := eq_true (by omega); (try rw [show ((0 : Int)).toNat = 0 from rfl] at hx515_0); (try rw [Addr.add_zero'] at hx515_0); replace hx515_0 := (HB.out.cell (World.block_lt_of_cell? w _ hx515_0)).trans hx515_0; replace p515 := eq_true p515; replace q515 := eq_true q515))
   go_ret
   exact ⟨by first | rfl | (simp [errW_none, errW_some] <;> rfl) | (simp [*, errW_none, errW_some] <;> rfl), by exact bS1 HB.out GE514.out⟩
  ·
   rw [if_neg c4] at H
   exact absurd H (by simp)
 ·
  rw [if_neg c3] at H
  have c3b0 : ((l0_0.length : Int) == 0) = false := beq_eq_false_iff_ne.mpr c3
  have c3b1 : ((l0_0.length : Int) != 0) = true := bne_iff_ne.mpr c3
  have c3b2 : ¬ (l0_0 = []) := fun h_ => c3 (by rw [h_]; rfl)
  by_cases c7 : 0 ≤ a1
  ·
   rw [if_pos c7] at H
   have c7b0 : decide (0 ≤ a1) = true := decide_eq_true c7
   clear c7
   by_cases c8 : a1 < (l0_1.length : Int)
   ·
    rw [if_pos c8] at H
    have c8b0 : decide (a1 < (l0_1.length : Int)) = true := decide_eq_true c8
    clear c8
    obtain rfl := Option.some.inj H
    go_enter Try.func76, Try.ntmps76
    go_wp2_with (first | ((with_reducible refine gate_dst (N := 2) rfl ?_); refine box_event ?hg (N := 2) ?hd (cs := #[.slice A0_0 l0_0.length c0_0, .slice A0_1 l0_1.length c0_1]) (t := 26) ?hr ?_; (case hd => rfl); (case hg => rfl); (case hr => first | (go_simp; done) | (go_simp; rfl)); intro gb514 hg w9 hbox hb; have BK514 := Aside0.mk (hbox); have GW514 := Aside0.mk ((by rw [hg]; exact (below_size (bU HB.out)) : w.heap.size ≤ gb514)); have GE514 := Aside0.mk ((by rw [hg]; exact (below_size (bU HB.out)) : w.heap.size ≤ gb514)); replace HB := Aside0.mk (below_step (bU HB.out) hb); clear hb hbox hg; have hcz10_0 : w9.cell? ⟨gb514, 0, none⟩ = some (.slice A0_0 l0_0.length c0_0) := (blk_cell BK514.out 0).trans rfl; have hcz10_1 : w9.cell? ⟨gb514, 1, none⟩ = some (.slice A0_1 l0_1.length c0_1) := (blk_cell BK514.out 1).trans rfl; have hfz10_0 := blk_frozen BK514.out 0; have hfz10_1 := blk_frozen BK514.out 1; have p516 : 0 ≤ (a1 : Int) := of_decide_eq_true (by first | (with_reducible assumption) | assumption); have q516 : a1 < (l0_1.length : Int) := of_decide_eq_true (by first | (with_reducible assumption) | assumption); obtain ⟨ad516, e516, hx516_0⟩ := Kd.at_int HR0_1.out a1 p516 q516; cases e516; replace hx516_0 := (HB.out.cell (World.block_lt_of_cell? w _ hx516_0)).trans hx516_0; replace p516 := eq_true p516; replace q516 := eq_true q516))
    go_ret
    exact ⟨by first | rfl | (simp [errW_none, errW_some] <;> rfl) | (simp [*, errW_none, errW_some] <;> rfl), by exact bS1 HB.out GE514.out⟩
   ·
    rw [if_neg c8] at H
    exact absurd H (by simp)
  ·
   rw [if_neg c7] at H
   exact absurd H (by simp)

end Go.Proofs.Ytlaikodjcjfeiaa.PFnEach
