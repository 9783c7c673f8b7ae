/- The walk of what a law reaches, for the law's row: written by a program of this session; it has no condition of its own. -/
import Derived.Test.YtlaikodjcjfeiaaPFnEachx0
import Derived.Test.YtlaikodjcjfeiaaQ
import Derived.Test.YtlaikodjcjfeiaaPFnEachx1
namespace Go.Proofs.Ytlaikodjcjfeiaa.PFnEach
open Go.RowKit Go.Proofs.YtlaikodjcjfeiaaW.PrintWords Go.Proofs.YtlaikodjcjfeiaaW.PrintLast Go.Proofs.YtlaikodjcjfeiaaW.PrintMore Go.Proofs.YtlaikodjcjfeiaaQ
attribute [local go_sem] max2_int min2_int max_two min_two max_three min_three max_four min_four   -- for this text's walks alone
set_option linter.unusedVariables false
set_option linter.unusedSimpArgs false

/-! ### spec_NumOk: function 56 -/
def spec_NumOk.f (a0 : Int) : Option (Bool) := (spec_l1In.f a0 (-1000000000000) 1000000000000).bind fun t449 => (some t449)
set_option maxHeartbeats 8000000 in
set_option maxRecDepth 100000 in
theorem spec_NumOk.calls (a0 : Int) (r : Bool) (w : World) (h : spec_NumOk.f a0 = some r) :
  Calls Try.prog 56 #[.int .i64 a0] w fun e w' => e = .returned (.bool r) ∧ Drawn0 w w' := by
 have H : ((spec_l1In.f a0 (-1000000000000) 1000000000000).bind fun t449 => (some t449)) = some r := h
 clear h
 replace H := Option.bind_eq_some_iff.mp H
 obtain ⟨t449, A20, H⟩ := H
 replace H : (some t449) = some r := H
 have A2 := Aside0.mk A20
 clear A20
 obtain rfl := Option.some.inj H
 go_enter Try.func56, Try.ntmps56
 go_wp2_with (first | ((with_reducible refine gate_callee (f := 91) rfl ?_); refine goesL_ (some 4) rfl rfl Try.func91 (by kernel_rfl) rfl #[.int .i64 a0, .int .i64 (-1000000000000), .int .i64 1000000000000] rfl lU ?_; (with_reducible refine (spec_l1In.calls a0 (-1000000000000) 1000000000000 t449 _ A2.out).mono ?_); rintro e w' ⟨rfl, ⟨nd, rfl⟩⟩; refine ⟨_, rfl, ?_⟩))
 go_ret
 exact ⟨rU, dU⟩

/-! ### spec_ArrayOk: function 74 -/
def spec_ArrayOk.l0 : Nat → Int → List Int → List Int → Option (Bool)
 | 0, _, _, _ => none
 | k + 1, x3, x451000, x451001 => if x3 < (x451001.length : Int) then (if 0 ≤ x3 then ((spec_NumOk.f (rd x451001 x3)).bind fun t453 => (if t453 = true then (spec_ArrayOk.l0 k (wrap64 (x3 + 1)) x451000 x451001) else (some false))) else (none)) else (some true)
def spec_ArrayOk.f (k : Nat) (l0_0 : List Int) (l0_1 : List Int) : Option (Bool) := (spec_SizeOf.f k l0_0).bind fun t451 => (if t451 = (l0_1.length : Int) then (spec_ArrayOk.l0 k 0 l0_0 l0_1) else (some false))
set_option maxHeartbeats 8000000 in
set_option maxRecDepth 100000 in
theorem spec_ArrayOk.calls (k : Nat) (A0_0 : Option Addr) (c0_0 : Nat) (l0_0 : List Int) (A0_1 : Option Addr) (c0_1 : Nat) (l0_1 : List Int) (r : Bool) (w : World) (hr0_0 : Kd.C (Kd.int .i64) w A0_0 l0_0.length l0_0) (hc0_0 : l0_0.length ≤ c0_0) (hr0_1 : Kd.C (Kd.int .i64) w A0_1 l0_1.length l0_1) (hc0_1 : l0_1.length ≤ c0_1) (h : spec_ArrayOk.f k l0_0 l0_1 = some r) :
  Calls Try.prog 74 #[.agg #[.slice A0_0 l0_0.length c0_0, .slice A0_1 l0_1.length c0_1]] w fun e w' => e = .returned (.bool r) ∧ Below w.heap.size w w' := by
 have hu26 := Try.underlying26
 have HR0_0 := Aside0.mk hr0_0
 have HC0_0 := Aside0.mk hc0_0
 clear hr0_0 hc0_0
 have HR0_1 := Aside0.mk hr0_1
 have HC0_1 := Aside0.mk hc0_1
 clear hr0_1 hc0_1
 have HB := Aside0.mk (Below.refl w.heap.size w)
 have H : ((spec_SizeOf.f k l0_0).bind fun t451 => (if t451 = (l0_1.length : Int) then (spec_ArrayOk.l0 k 0 l0_0 l0_1) else (some false))) = some r := h
 clear h
 replace H := Option.bind_eq_some_iff.mp H
 obtain ⟨t451, A20, H⟩ := H
 replace H : (if t451 = (l0_1.length : Int) then (spec_ArrayOk.l0 k 0 l0_0 l0_1) else (some false)) = some r := H
 have A2 := Aside0.mk A20
 clear A20
 by_cases c3 : t451 = (l0_1.length : Int)
 ·
  rw [if_pos c3] at H
  have c3b0 : (t451 == (l0_1.length : Int)) = true := beq_iff_eq.mpr c3
  have c3b1 : (t451 != (l0_1.length : Int)) = false := bne_eq_false_iff_eq.mpr c3
  clear c3
  have H' := Aside0.mk H
  clear H
  go_enter Try.func74, Try.ntmps74
  go_wp2_with (first | ((with_reducible refine gate_dst (N := 1) rfl ?_); refine box_event ?hg (N := 1) ?hd (cs := #[.slice A0_0 l0_0.length c0_0, .slice A0_1 l0_1.length c0_1]) (t := 26) ?hr ?_; (case hd => rfl); (case hg => rfl); (case hr => first | (go_simp; done) | (go_simp; rfl)); intro gb450 hg w4 hbox hb; have BK450 := Aside0.mk (hbox); have GW450 := Aside0.mk ((by rw [hg]; exact (below_size (bU HB.out)) : w.heap.size ≤ gb450)); have GE450 := Aside0.mk ((by rw [hg]; exact (below_size (bU HB.out)) : w.heap.size ≤ gb450)); replace HB := Aside0.mk (below_step (bU HB.out) hb); clear hb hbox hg; have hcz5_0 : w4.cell? ⟨gb450, 0, none⟩ = some (.slice A0_0 l0_0.length c0_0) := (blk_cell BK450.out 0).trans rfl; have hcz5_1 : w4.cell? ⟨gb450, 1, none⟩ = some (.slice A0_1 l0_1.length c0_1) := (blk_cell BK450.out 1).trans rfl; have hfz5_0 := blk_frozen BK450.out 0; have hfz5_1 := blk_frozen BK450.out 1) | (go_at_call 45; (repeat rw [i64_w]); (with_reducible refine (spec_SizeOf.calls k _ _ l0_0 t451 _ ?side1 ?side2 A2.out).mono ?_); (case side1 => exact cU (Kd.C_below HR0_0.out HB.out)); (case side2 => exact HC0_0.out); rintro e w' ⟨rfl, ⟨nd, rfl⟩⟩; (try exact qU)))
  repeat (go_quiet ((go_at_call 45; (repeat rw [i64_w]); (with_reducible refine (spec_SizeOf.calls k _ _ l0_0 t451 _ ?side1 ?side2 A2.out).mono ?_); (case side1 => exact cU (Kd.C_below HR0_0.out HB.out)); (case side2 => exact HC0_0.out); rintro e w' ⟨rfl, ⟨nd, rfl⟩⟩; (try exact qU))); try go_wp2_with (first | ((with_reducible refine gate_dst (N := 1) rfl ?_); refine box_event ?hg (N := 1) ?hd (cs := #[.slice A0_0 l0_0.length c0_0, .slice A0_1 l0_1.length c0_1]) (t := 26) ?hr ?_; (case hd => rfl); (case hg => rfl); (case hr => first | (go_simp; done) | (go_simp; rfl)); intro gb450 hg w4 hbox hb; have BK450 := Aside0.mk (hbox); have GW450 := Aside0.mk ((by rw [hg]; exact (below_size (bU HB.out)) : w.heap.size ≤ gb450)); have GE450 := Aside0.mk ((by rw [hg]; exact (below_size (bU HB.out)) : w.heap.size ≤ gb450)); replace HB := Aside0.mk (below_step (bU HB.out) hb); clear hb hbox hg; have hcz5_0 : w4.cell? ⟨gb450, 0, none⟩ = some (.slice A0_0 l0_0.length c0_0) := (blk_cell BK450.out 0).trans rfl; have hcz5_1 : w4.cell? ⟨gb450, 1, none⟩ = some (.slice A0_1 l0_1.length c0_1) := (blk_cell BK450.out 1).trans rfl; have hfz5_0 := blk_frozen BK450.out 0; have hfz5_1 := blk_frozen BK450.out 1) | (go_at_call 45; (repeat rw [i64_w]); (with_reducible refine (spec_SizeOf.calls k _ _ l0_0 t451 _ ?side1 ?side2 A2.out).mono ?_); (case side1 => exact cU (Kd.C_below HR0_0.out HB.out)); (case side2 => exact HC0_0.out); rintro e w' ⟨rfl, ⟨nd, rfl⟩⟩; (try exact qU))))
  go_loopg [3] k (fun kq v3 w' => ∃ (x3_1 : Int), v3 = .int .i64 x3_1 ∧ Aside0 (spec_ArrayOk.l0 kq x3_1 l0_0 l0_1 = some r) ∧ Aside0 (kq ≤ k) ∧ Aside0 (w'.heap[gb450]? = some (.cells #[(.slice A0_0 l0_0.length c0_0), (.slice A0_1 l0_1.length c0_1)] 26 (0, 0))) ∧ Aside0 (Below w.heap.size w w'))
  case atStart => exact ⟨(0), (by first | rfl | (simp; done) | (simp [*]; done)), H', ⟨Nat.le_refl _⟩, ⟨by refine kU ?_; exact BK450.out⟩, ⟨by exact bS1 HB.out GE450.out⟩⟩
  case round =>
   clear H'
   try clear p2
   try clear c3
   try clear c3b0
   try clear c3b1
   try clear hcz5_0
   try clear hcz5_1
   try clear hfz5_0
   try clear hfz5_1
   obtain ⟨x3_1, rfl, HA, HK1, BK450, HB⟩ := hrel
   cases gk with
   | zero => exact absurd HA.out (by simp [spec_ArrayOk.l0])
   | succ k1 =>
    have H := HA.out
    clear HA
    simp only [spec_ArrayOk.l0] at H
    by_cases c6 : x3_1 < (l0_1.length : Int)
    ·
     rw [if_pos c6] at H
     have c6b0 : decide (x3_1 < (l0_1.length : Int)) = true := decide_eq_true c6
     clear c6
     by_cases c7 : 0 ≤ x3_1
     ·
      rw [if_pos c7] at H
      have c7b0 : decide (0 ≤ x3_1) = true := decide_eq_true c7
      clear c7
      replace H := Option.bind_eq_some_iff.mp H
      obtain ⟨t453, A80, H⟩ := H
      replace H : (if t453 = true then (spec_ArrayOk.l0 k1 (wrap64 (x3_1 + 1)) l0_0 l0_1) else (some false)) = some r := H
      have A8 := Aside0.mk A80
      clear A80
      by_cases c9 : t453 = true
      ·
       subst c9
       have H1 : (spec_ArrayOk.l0 k1 (wrap64 (x3_1 + 1)) l0_0 l0_1) = some r := by rw [if_pos rfl] at H; exact H
       clear H
       have H := H1
       clear H1
       have H' := Aside0.mk H
       clear H
       have hcz10_0 : wr.cell? ⟨gb450, 0, none⟩ = some (.slice A0_0 l0_0.length c0_0) := (blk_cell BK450.out 0).trans rfl
       have hcz10_1 : wr.cell? ⟨gb450, 1, none⟩ = some (.slice A0_1 l0_1.length c0_1) := (blk_cell BK450.out 1).trans rfl
       have hfz10_0 := blk_frozen BK450.out 0
       have hfz10_1 := blk_frozen BK450.out 1
       have p452 : 0 ≤ (x3_1 : Int) := of_decide_eq_true (by first | (with_reducible assumption) | assumption)
       have q452 : x3_1 < (l0_1.length : Int) := of_decide_eq_true (by first | (with_reducible assumption) | assumption)
       obtain ⟨ad452, e452, hx452_0⟩ := Kd.at_int HR0_1.out x3_1 p452 q452
       cases e452
       replace hx452_0 := (HB.out.cell (World.block_lt_of_cell? w _ hx452_0)).trans hx452_0
       replace p452 := eq_true p452
       replace q452 := eq_true q452
       go_wp2_with (first | (go_at_call 56; (repeat rw [i64_w]); (with_reducible refine (spec_NumOk.calls (rd l0_1 x3_1) true _ A8.out).mono ?_); rintro e w' ⟨rfl, ⟨nd, rfl⟩⟩; (try exact qU)))
       repeat (go_quiet ((go_at_call 56; (repeat rw [i64_w]); (with_reducible refine (spec_NumOk.calls (rd l0_1 x3_1) true _ A8.out).mono ?_); rintro e w' ⟨rfl, ⟨nd, rfl⟩⟩; (try exact qU))); try go_wp2_with (first | (go_at_call 56; (repeat rw [i64_w]); (with_reducible refine (spec_NumOk.calls (rd l0_1 x3_1) true _ A8.out).mono ?_); rintro e w' ⟨rfl, ⟨nd, rfl⟩⟩; (try exact qU))))
       go_roundg k1
       case measure => have := HK1.out; omega
       case rel => exact ⟨(wrap64 (x3_1 + 1)), (by first | rfl | (simp; done) | (simp [*]; done)), H', ⟨by have := HK1.out; omega⟩, ⟨by refine kU ?_; exact BK450.out⟩, ⟨by exact bS1 HB.out GE450.out⟩⟩
      ·
       replace c9 := Bool.eq_false_iff.mpr c9
       subst c9
       have H1 : (some false) = some r := by rw [if_neg (show ¬ (false = true) by decide)] at H; exact H
       clear H
       have H := H1
       clear H1
       obtain rfl := Option.some.inj H
       have hcz11_0 : wr.cell? ⟨gb450, 0, none⟩ = some (.slice A0_0 l0_0.length c0_0) := (blk_cell BK450.out 0).trans rfl
       have hcz11_1 : wr.cell? ⟨gb450, 1, none⟩ = some (.slice A0_1 l0_1.length c0_1) := (blk_cell BK450.out 1).trans rfl
       have hfz11_0 := blk_frozen BK450.out 0
       have hfz11_1 := blk_frozen BK450.out 1
       have p452 : 0 ≤ (x3_1 : Int) := of_decide_eq_true (by first | (with_reducible assumption) | assumption)
       have q452 : x3_1 < (l0_1.length : Int) := of_decide_eq_true (by first | (with_reducible assumption) | assumption)
       obtain ⟨ad452, e452, hx452_0⟩ := Kd.at_int HR0_1.out x3_1 p452 q452
       cases e452
       replace hx452_0 := (HB.out.cell (World.block_lt_of_cell? w _ hx452_0)).trans hx452_0
       replace p452 := eq_true p452
       replace q452 := eq_true q452
       go_wp2_with (first | (go_at_call 56; (repeat rw [i64_w]); (with_reducible refine (spec_NumOk.calls (rd l0_1 x3_1) false _ A8.out).mono ?_); rintro e w' ⟨rfl, ⟨nd, rfl⟩⟩; (try exact qU)))
       repeat (go_quiet ((go_at_call 56; (repeat rw [i64_w]); (with_reducible refine (spec_NumOk.calls (rd l0_1 x3_1) false _ A8.out).mono ?_); rintro e w' ⟨rfl, ⟨nd, rfl⟩⟩; (try exact qU))); try go_wp2_with (first | (go_at_call 56; (repeat rw [i64_w]); (with_reducible refine (spec_NumOk.calls (rd l0_1 x3_1) false _ A8.out).mono ?_); rintro e w' ⟨rfl, ⟨nd, rfl⟩⟩; (try exact qU))))
       go_ret
       exact ⟨by first | rfl | (simp [errW_none, errW_some] <;> rfl) | (simp [*, errW_none, errW_some] <;> rfl), by exact bS1 HB.out GE450.out⟩
     ·
      rw [if_neg c7] at H
      exact absurd H (by simp)
    ·
     rw [if_neg c6] at H
     have c6b0 : decide (x3_1 < (l0_1.length : Int)) = false := decide_eq_false c6
     clear c6
     obtain rfl := Option.some.inj H
     have hcz12_0 : wr.cell? ⟨gb450, 0, none⟩ = some (.slice A0_0 l0_0.length c0_0) := (blk_cell BK450.out 0).trans rfl
     have hcz12_1 : wr.cell? ⟨gb450, 1, none⟩ = some (.slice A0_1 l0_1.length c0_1) := (blk_cell BK450.out 1).trans rfl
     have hfz12_0 := blk_frozen BK450.out 0
     have hfz12_1 := blk_frozen BK450.out 1
     go_wp2
     repeat (go_quiet (fail); try go_wp2)
     go_ret
     exact ⟨by first | rfl | (simp [errW_none, errW_some] <;> rfl) | (simp [*, errW_none, errW_some] <;> rfl), by exact bS1 HB.out GE450.out⟩
 ·
  rw [if_neg c3] at H
  have c3b0 : (t451 == (l0_1.length : Int)) = false := beq_eq_false_iff_ne.mpr c3
  have c3b1 : (t451 != (l0_1.length : Int)) = true := bne_iff_ne.mpr c3
  obtain rfl := Option.some.inj H
  go_enter Try.func74, Try.ntmps74
  go_wp2_with (first | ((with_reducible refine gate_dst (N := 1) rfl ?_); refine box_event ?hg (N := 1) ?hd (cs := #[.slice A0_0 l0_0.length c0_0, .slice A0_1 l0_1.length c0_1]) (t := 26) ?hr ?_; (case hd => rfl); (case hg => rfl); (case hr => first | (go_simp; done) | (go_simp; rfl)); intro gb450 hg w13 hbox hb; have BK450 := Aside0.mk (hbox); have GW450 := Aside0.mk ((by rw [hg]; exact (below_size (bU HB.out)) : w.heap.size ≤ gb450)); have GE450 := Aside0.mk ((by rw [hg]; exact (below_size (bU HB.out)) : w.heap.size ≤ gb450)); replace HB := Aside0.mk (below_step (bU HB.out) hb); clear hb hbox hg; have hcz14_0 : w13.cell? ⟨gb450, 0, none⟩ = some (.slice A0_0 l0_0.length c0_0) := (blk_cell BK450.out 0).trans rfl; have hcz14_1 : w13.cell? ⟨gb450, 1, none⟩ = some (.slice A0_1 l0_1.length c0_1) := (blk_cell BK450.out 1).trans rfl; have hfz14_0 := blk_frozen BK450.out 0; have hfz14_1 := blk_frozen BK450.out 1) | (go_at_call 45; (repeat rw [i64_w]); (with_reducible refine (spec_SizeOf.calls k _ _ l0_0 t451 _ ?side1 ?side2 A2.out).mono ?_); (case side1 => exact cU (Kd.C_below HR0_0.out HB.out)); (case side2 => exact HC0_0.out); rintro e w' ⟨rfl, ⟨nd, rfl⟩⟩; (try exact qU)))
  repeat (go_quiet ((go_at_call 45; (repeat rw [i64_w]); (with_reducible refine (spec_SizeOf.calls k _ _ l0_0 t451 _ ?side1 ?side2 A2.out).mono ?_); (case side1 => exact cU (Kd.C_below HR0_0.out HB.out)); (case side2 => exact HC0_0.out); rintro e w' ⟨rfl, ⟨nd, rfl⟩⟩; (try exact qU))); try go_wp2_with (first | ((with_reducible refine gate_dst (N := 1) rfl ?_); refine box_event ?hg (N := 1) ?hd (cs := #[.slice A0_0 l0_0.length c0_0, .slice A0_1 l0_1.length c0_1]) (t := 26) ?hr ?_; (case hd => rfl); (case hg => rfl); (case hr => first | (go_simp; done) | (go_simp; rfl)); intro gb450 hg w13 hbox hb; have BK450 := Aside0.mk (hbox); have GW450 := Aside0.mk ((by rw [hg]; exact (below_size (bU HB.out)) : w.heap.size ≤ gb450)); have GE450 := Aside0.mk ((by rw [hg]; exact (below_size (bU HB.out)) : w.heap.size ≤ gb450)); replace HB := Aside0.mk (below_step (bU HB.out) hb); clear hb hbox hg; have hcz14_0 : w13.cell? ⟨gb450, 0, none⟩ = some (.slice A0_0 l0_0.length c0_0) := (blk_cell BK450.out 0).trans rfl; have hcz14_1 : w13.cell? ⟨gb450, 1, none⟩ = some (.slice A0_1 l0_1.length c0_1) := (blk_cell BK450.out 1).trans rfl; have hfz14_0 := blk_frozen BK450.out 0; have hfz14_1 := blk_frozen BK450.out 1) | (go_at_call 45; (repeat rw [i64_w]); (with_reducible refine (spec_SizeOf.calls k _ _ l0_0 t451 _ ?side1 ?side2 A2.out).mono ?_); (case side1 => exact cU (Kd.C_below HR0_0.out HB.out)); (case side2 => exact HC0_0.out); rintro e w' ⟨rfl, ⟨nd, rfl⟩⟩; (try exact qU))))
  go_ret
  exact ⟨by first | rfl | (simp [errW_none, errW_some] <;> rfl) | (simp [*, errW_none, errW_some] <;> rfl), by exact bS1 HB.out GE450.out⟩

/-! ### spec_l2Same: function 86 -/
def spec_l2Same.l0 : Nat → List Int → List Int → Int → Option (Bool)
 | 0, _, _, _ => none
 | k + 1, x0, x1, x5 => if x5 < (x0.length : Int) then (if 0 ≤ x5 then (if x5 < (x1.length : Int) then (if (rd x0 x5) = (rd x1 x5) then (spec_l2Same.l0 k x0 x1 (wrap64 (x5 + 1))) else (some false)) else (none)) else (none)) else (some true)
def spec_l2Same.f (k : Nat) (l0 : List Int) (l1 : List Int) : Option (Bool) := if (l0.length : Int) = (l1.length : Int) then (spec_l2Same.l0 k l0 l1 0) else (some false)
set_option maxHeartbeats 8000000 in
set_option maxRecDepth 100000 in
theorem spec_l2Same.calls (k : Nat) (A0 : Option Addr) (c0 : Nat) (l0 : List Int) (A1 : Option Addr) (c1 : Nat) (l1 : List Int) (r : Bool) (w : World) (hr0 : Kd.C (Kd.int .i64) w A0 l0.length l0) (hc0 : l0.length ≤ c0) (hr1 : Kd.C (Kd.int .i64) w A1 l1.length l1) (hc1 : l1.length ≤ c1) (h : spec_l2Same.f k l0 l1 = some r) :
  Calls Try.prog 86 #[.slice A0 l0.length c0, .slice A1 l1.length c1] w fun e w' => e = .returned (.bool r) ∧ Drawn0 w w' := by
 have HR0 := Aside0.mk hr0
 have HC0 := Aside0.mk hc0
 clear hr0 hc0
 have HR1 := Aside0.mk hr1
 have HC1 := Aside0.mk hc1
 clear hr1 hc1
 have H : (if (l0.length : Int) = (l1.length : Int) then (spec_l2Same.l0 k l0 l1 0) else (some false)) = some r := h
 clear h
 by_cases c3 : (l0.length : Int) = (l1.length : Int)
 ·
  rw [if_pos c3] at H
  have c3b0 : ((l0.length : Int) == (l1.length : Int)) = true := beq_iff_eq.mpr c3
  have c3b1 : ((l0.length : Int) != (l1.length : Int)) = false := bne_eq_false_iff_eq.mpr c3
  have c3b2 : (l0.length == l1.length) = true := by first | simpa using c3 | (simp at c3 ⊢; omega)
  clear c3
  have H' := Aside0.mk H
  clear H
  go_enter Try.func86, Try.ntmps86
  go_wp2
  repeat (go_quiet (fail); try go_wp2)
  go_loopg [5] k (fun kq v5 w' => ∃ (x5_1 : Int), v5 = .int .i64 x5_1 ∧ Aside0 (spec_l2Same.l0 kq l0 l1 x5_1 = some r) ∧ Aside0 (kq ≤ k) ∧ Drawn0 w w')
  case atStart => exact ⟨(0), (by first | rfl | (simp; done) | (simp [*]; done)), H', ⟨Nat.le_refl _⟩, by repeat (first | exact Drawn0.refl _ | apply Drawn0.step)⟩
  case round =>
   clear H'
   try clear c1
   try clear p2
   try clear c3
   try clear c3b0
   try clear c3b1
   try clear c3b2
   obtain ⟨x5_1, rfl, HA, HK1, ⟨m1, rfl⟩⟩ := hrel
   cases gk with
   | zero => exact absurd HA.out (by simp [spec_l2Same.l0])
   | succ k1 =>
    have H := HA.out
    clear HA
    simp only [spec_l2Same.l0] at H
    by_cases c4 : x5_1 < (l0.length : Int)
    ·
     rw [if_pos c4] at H
     have c4b0 : decide (x5_1 < (l0.length : Int)) = true := decide_eq_true c4
     clear c4
     by_cases c5 : 0 ≤ x5_1
     ·
      rw [if_pos c5] at H
      have c5b0 : decide (0 ≤ x5_1) = true := decide_eq_true c5
      clear c5
      by_cases c6 : x5_1 < (l1.length : Int)
      ·
       rw [if_pos c6] at H
       have c6b0 : decide (x5_1 < (l1.length : Int)) = true := decide_eq_true c6
       clear c6
       by_cases c7 : (rd l0 x5_1) = (rd l1 x5_1)
       ·
        rw [if_pos c7] at H
        have c7b0 : ((rd l0 x5_1) == (rd l1 x5_1)) = true := beq_iff_eq.mpr c7
        have c7b1 : ((rd l0 x5_1) != (rd l1 x5_1)) = false := bne_eq_false_iff_eq.mpr c7
        clear c7
        have H' := Aside0.mk H
        clear H
        have p454 : 0 ≤ (x5_1 : Int) := of_decide_eq_true (by first | (with_reducible assumption) | assumption)
        have q454 : x5_1 < (l0.length : Int) := of_decide_eq_true (by first | (with_reducible assumption) | assumption)
        obtain ⟨ad454, e454, hx454_0⟩ := Kd.at_int HR0.out x5_1 p454 q454
        cases e454
        replace p454 := eq_true p454
        replace q454 := eq_true q454
        have p455 : 0 ≤ (x5_1 : Int) := of_decide_eq_true (by first | (with_reducible assumption) | assumption)
        have q455 : x5_1 < (l1.length : Int) := of_decide_eq_true (by first | (with_reducible assumption) | assumption)
        obtain ⟨ad455, e455, hx455_0⟩ := Kd.at_int HR1.out x5_1 p455 q455
        cases e455
        replace p455 := eq_true p455
        replace q455 := eq_true q455
        go_wp2
        repeat (go_quiet (fail); try go_wp2)
        go_roundg k1
        case measure => have := HK1.out; omega
        case rel => exact ⟨(wrap64 (x5_1 + 1)), (by first | rfl | (simp; done) | (simp [*]; done)), H', ⟨by have := HK1.out; omega⟩, by repeat (first | exact Drawn0.refl _ | apply Drawn0.step)⟩
       ·
        rw [if_neg c7] at H
        have c7b0 : ((rd l0 x5_1) == (rd l1 x5_1)) = false := beq_eq_false_iff_ne.mpr c7
        have c7b1 : ((rd l0 x5_1) != (rd l1 x5_1)) = true := bne_iff_ne.mpr c7
        obtain rfl := Option.some.inj H
        have p454 : 0 ≤ (x5_1 : Int) := of_decide_eq_true (by first | (with_reducible assumption) | assumption)
        have q454 : x5_1 < (l0.length : Int) := of_decide_eq_true (by first | (with_reducible assumption) | assumption)
        obtain ⟨ad454, e454, hx454_0⟩ := Kd.at_int HR0.out x5_1 p454 q454
        cases e454
        replace p454 := eq_true p454
        replace q454 := eq_true q454
        have p455 : 0 ≤ (x5_1 : Int) := of_decide_eq_true (by first | (with_reducible assumption) | assumption)
        have q455 : x5_1 < (l1.length : Int) := of_decide_eq_true (by first | (with_reducible assumption) | assumption)
        obtain ⟨ad455, e455, hx455_0⟩ := Kd.at_int HR1.out x5_1 p455 q455
        cases e455
        replace p455 := eq_true p455
        replace q455 := eq_true q455
        go_wp2
        repeat (go_quiet (fail); try go_wp2)
        go_ret
        exact ⟨rU, dU⟩
      ·
       rw [if_neg c6] at H
       exact absurd H (by simp)
     ·
      rw [if_neg c5] at H
      exact absurd H (by simp)
    ·
     rw [if_neg c4] at H
     have c4b0 : decide (x5_1 < (l0.length : Int)) = false := decide_eq_false c4
     clear c4
     obtain rfl := Option.some.inj H
     go_wp2
     repeat (go_quiet (fail); try go_wp2)
     go_ret
     exact ⟨rU, dU⟩
 ·
  rw [if_neg c3] at H
  have c3b0 : ((l0.length : Int) == (l1.length : Int)) = false := beq_eq_false_iff_ne.mpr c3
  have c3b1 : ((l0.length : Int) != (l1.length : Int)) = true := bne_iff_ne.mpr c3
  have c3b2 : (l0.length == l1.length) = false := by first | simpa using c3 | (simp at c3 ⊢; omega)
  obtain rfl := Option.some.inj H
  go_enter Try.func86, Try.ntmps86
  go_wp2
  repeat (go_quiet (fail); try go_wp2)
  go_ret
  exact ⟨rU, dU⟩

/-! ### spec_Fit: function 38 -/
def spec_Fit.j0 : Nat → Bool → List Int → List Int → List Int → List Int → Option (List Int × Int)
 | 0, _, _, _, _, _ => none
 | k + 1, x6, x457000, x457001, x458000, x458001 => if x6 = true then (some ((([] : List Int)), 1)) else (if (x457000.length : Int) = 0 then ((some (([] : List Int) : List Int)).bind fun y463 => (if y463.length + x458000.length < 17592186044416 then (some ((y463 ++ x458000), 0)) else (none))) else (if (x458000.length : Int) = 0 then ((some (([] : List Int) : List Int)).bind fun y469 => (if y469.length + x457000.length < 17592186044416 then (some ((y469 ++ x457000), 0)) else (none))) else (if (x457000.length : Int) = (x458000.length : Int) then ((spec_l2Same.f k x457000 x458000).bind fun t475 => (if t475 = true then ((some (([] : List Int) : List Int)).bind fun y476 => (if y476.length + x457000.length < 17592186044416 then (some ((y476 ++ x457000), 0)) else (none))) else (some ((([] : List Int)), 3)))) else (some ((([] : List Int)), 4)))))
def spec_Fit.f (k : Nat) (l0_0 : List Int) (l0_1 : List Int) (l1_0 : List Int) (l1_1 : List Int) : Option (List Int × Int) := (spec_ArrayOk.f k l0_0 l0_1).bind fun t458 => (if t458 = true then ((spec_ArrayOk.f k l1_0 l1_1).bind fun t459 => (spec_Fit.j0 k (!t459) l0_0 l0_1 l1_0 l1_1)) else (spec_Fit.j0 k true l0_0 l0_1 l1_0 l1_1))
set_option maxHeartbeats 8000000 in
set_option maxRecDepth 100000 in
theorem spec_Fit.calls (k : Nat) (A0_0 : Option Addr) (c0_0 : Nat) (l0_0 : List Int) (A0_1 : Option Addr) (c0_1 : Nat) (l0_1 : List Int) (A1_0 : Option Addr) (c1_0 : Nat) (l1_0 : List Int) (A1_1 : Option Addr) (c1_1 : Nat) (l1_1 : List Int) (r1 : List Int) (r2 : Int) (w : World) (hr0_0 : Kd.C (Kd.int .i64) w A0_0 l0_0.length l0_0) (hc0_0 : l0_0.length ≤ c0_0) (hr0_1 : Kd.C (Kd.int .i64) w A0_1 l0_1.length l0_1) (hc0_1 : l0_1.length ≤ c0_1) (hr1_0 : Kd.C (Kd.int .i64) w A1_0 l1_0.length l1_0) (hc1_0 : l1_0.length ≤ c1_0) (hr1_1 : Kd.C (Kd.int .i64) w A1_1 l1_1.length l1_1) (hc1_1 : l1_1.length ≤ c1_1) (h : spec_Fit.f k l0_0 l0_1 l1_0 l1_1 = some (r1, r2)) :
  Calls Try.prog 38 #[.agg #[.slice A0_0 l0_0.length c0_0, .slice A0_1 l0_1.length c0_1], .agg #[.slice A1_0 l1_0.length c1_0, .slice A1_1 l1_1.length c1_1]] w fun e w' => ∃ v0_ : Value, e = .returned (.tuple #[v0_, .int .i64 r2]) ∧ Kd.R (Kd.int .i64) 3 w' w.heap.size (fun _ => True) v0_ r1 ∧ Below w.heap.size w w' := by
 have hu26 := Try.underlying26
 have HR0_0 := Aside0.mk hr0_0
 have HC0_0 := Aside0.mk hc0_0
 clear hr0_0 hc0_0
 have HR0_1 := Aside0.mk hr0_1
 have HC0_1 := Aside0.mk hc0_1
 clear hr0_1 hc0_1
 have HR1_0 := Aside0.mk hr1_0
 have HC1_0 := Aside0.mk hc1_0
 clear hr1_0 hc1_0
 have HR1_1 := Aside0.mk hr1_1
 have HC1_1 := Aside0.mk hc1_1
 clear hr1_1 hc1_1
 have HB := Aside0.mk (Below.refl w.heap.size w)
 have H : ((spec_ArrayOk.f k l0_0 l0_1).bind fun t458 => (if t458 = true then ((spec_ArrayOk.f k l1_0 l1_1).bind fun t459 => (spec_Fit.j0 k (!t459) l0_0 l0_1 l1_0 l1_1)) else (spec_Fit.j0 k true l0_0 l0_1 l1_0 l1_1))) = some (r1, r2) := h
 clear h
 have HC3 := Aside0.mk H
 clear H
 go_enter Try.func38, Try.ntmps38
 go_upto_region 1 with (first | ((with_reducible refine gate_dst (N := 2) rfl ?_); refine box_event ?hg (N := 2) ?hd (cs := #[.slice A0_0 l0_0.length c0_0, .slice A0_1 l0_1.length c0_1]) (t := 26) ?hr ?_; (case hd => rfl); (case hg => rfl); (case hr => first | (go_simp; done) | (go_simp; rfl)); intro gb456 hg w4 hbox hb; have BK456 := Aside0.mk (hbox); have GW456 := Aside0.mk ((by rw [hg]; exact (below_size (bU HB.out)) : w.heap.size ≤ gb456)); have GE456 := Aside0.mk ((by rw [hg]; exact (below_size (bU HB.out)) : w.heap.size ≤ gb456)); replace HB := Aside0.mk (below_step (bU HB.out) hb); clear hb hbox hg) | ((with_reducible refine gate_dst (N := 3) rfl ?_); refine box_event ?hg (N := 3) ?hd (cs := #[.slice A1_0 l1_0.length c1_0, .slice A1_1 l1_1.length c1_1]) (t := 26) ?hr ?_; (case hd => rfl); (case hg => rfl); (case hr => first | (go_simp; done) | (go_simp; rfl)); intro gb457 hg w5 hbox hb; have BK457 := Aside0.mk (hbox); have GW457 := Aside0.mk ((by rw [hg]; exact (below_size (bS1 HB.out GE456.out)) : w.heap.size ≤ gb457)); have GE457 := Aside0.mk ((by rw [hg]; exact (below_size (bS1 HB.out GE456.out)) : w.heap.size ≤ gb457)); replace HB := Aside0.mk (below_step (bS1 HB.out GE456.out) hb); have NB456_457 := Aside0.mk ((by rw [hg]; exact Nat.ne_of_lt (blk_lt (g := gb456) (o := .cells #[.slice A0_0 l0_0.length c0_0, .slice A0_1 l0_1.length c0_1] 26 (0, 0)) (kU BK456.out)) : gb456 ≠ gb457)); have NB457_456 := Aside0.mk ((by rw [hg]; exact Nat.ne_of_gt (blk_lt (g := gb456) (o := .cells #[.slice A0_0 l0_0.length c0_0, .slice A0_1 l0_1.length c0_1] 26 (0, 0)) (kU BK456.out)) : gb457 ≠ gb456)); replace BK456 := Aside0.mk (blk_below (g := gb456) (o := .cells #[.slice A0_0 l0_0.length c0_0, .slice A0_1 l0_1.length c0_1] 26 (0, 0)) (kU BK456.out) hb); clear hb hbox hg))
 (try simp only [Act.put, List.setIfInBounds_toArray, List.set_cons_zero, List.set_cons_succ])
 go_cut [6] (fun v6 wc => ∃ (kq : Nat) (x6_2 : Bool), v6 = .bool x6_2 ∧ Aside0 (spec_Fit.j0 kq x6_2 l0_0 l0_1 l1_0 l1_1 = some (r1, r2)) ∧ Aside0 (kq ≤ k) ∧ Aside0 (wc.heap[gb456]? = some (.cells #[(.slice A0_0 l0_0.length c0_0), (.slice A0_1 l0_1.length c0_1)] 26 (0, 0))) ∧ Aside0 (wc.heap[gb457]? = some (.cells #[(.slice A1_0 l1_0.length c1_0), (.slice A1_1 l1_1.length c1_1)] 26 (0, 0))) ∧ Aside0 (Below w.heap.size w wc))
 case first =>
  have H := HC3.out
  clear HC3
  replace H := Option.bind_eq_some_iff.mp H
  obtain ⟨t458, A60, H⟩ := H
  replace H : (if t458 = true then ((spec_ArrayOk.f k l1_0 l1_1).bind fun t459 => (spec_Fit.j0 k (!t459) l0_0 l0_1 l1_0 l1_1)) else (spec_Fit.j0 k true l0_0 l0_1 l1_0 l1_1)) = some (r1, r2) := H
  have A6 := Aside0.mk A60
  clear A60
  by_cases c7 : t458 = true
  ·
   subst c7
   have H1 : ((spec_ArrayOk.f k l1_0 l1_1).bind fun t459 => (spec_Fit.j0 k (!t459) l0_0 l0_1 l1_0 l1_1)) = some (r1, r2) := by rw [if_pos rfl] at H; exact H
   clear H
   have H := H1
   clear H1
   replace H := Option.bind_eq_some_iff.mp H
   obtain ⟨t459, A80, H⟩ := H
   replace H : (spec_Fit.j0 k (!t459) l0_0 l0_1 l1_0 l1_1) = some (r1, r2) := H
   have A8 := Aside0.mk A80
   clear A80
   have H' := Aside0.mk H
   clear H
   have hnb9 := NB456_457.out
   have hnc9 := NB457_456.out
   have hcz10_0 : w5.cell? ⟨gb456, 0, none⟩ = some (.slice A0_0 l0_0.length c0_0) := (blk_cell BK456.out 0).trans rfl
   have hcz10_1 : w5.cell? ⟨gb456, 1, none⟩ = some (.slice A0_1 l0_1.length c0_1) := (blk_cell BK456.out 1).trans rfl
   have hfz10_0 := blk_frozen BK456.out 0
   have hfz10_1 := blk_frozen BK456.out 1
   go_wp2_with (first | ((with_reducible refine gate_callee (f := 74) rfl ?_); refine goesL_ (some 8) rfl rfl Try.func74 (by kernel_rfl) rfl #[.agg #[.slice A0_0 l0_0.length c0_0, .slice A0_1 l0_1.length c0_1]] rfl lU ?_; (with_reducible refine (spec_ArrayOk.calls k _ _ l0_0 _ _ l0_1 true _ ?side1 ?side2 ?side3 ?side4 A6.out).mono ?_); (case side1 => exact cU (Kd.C_below HR0_0.out HB.out)); (case side2 => exact HC0_0.out); (case side3 => exact cU (Kd.C_below HR0_1.out HB.out)); (case side4 => exact HC0_1.out); rintro e w11 ⟨rfl, hb⟩; refine ⟨_, rfl, ?_⟩; replace BK456 := Aside0.mk (blk_below (g := gb456) (o := .cells #[.slice A0_0 l0_0.length c0_0, .slice A0_1 l0_1.length c0_1] 26 (0, 0)) (kU BK456.out) hb); replace BK457 := Aside0.mk (blk_below (g := gb457) (o := .cells #[.slice A1_0 l1_0.length c1_0, .slice A1_1 l1_1.length c1_1] 26 (0, 0)) (kU BK457.out) hb); replace HB := Aside0.mk (below_step (bS2 HB.out GE456.out GE457.out) hb); (try clear hb); (try clear hb2); (try clear hk); (try clear hi); have hcz12_0 : w11.cell? ⟨gb457, 0, none⟩ = some (.slice A1_0 l1_0.length c1_0) := (blk_cell BK457.out 0).trans rfl; have hcz12_1 : w11.cell? ⟨gb457, 1, none⟩ = some (.slice A1_1 l1_1.length c1_1) := (blk_cell BK457.out 1).trans rfl; have hfz12_0 := blk_frozen BK457.out 0; have hfz12_1 := blk_frozen BK457.out 1) | (go_at_call 74; (repeat rw [i64_w]); (with_reducible refine (spec_ArrayOk.calls k _ _ l1_0 _ _ l1_1 t459 _ ?side1 ?side2 ?side3 ?side4 A8.out).mono ?_); (case side1 => exact cU (Kd.C_below HR1_0.out HB.out)); (case side2 => exact HC1_0.out); (case side3 => exact cU (Kd.C_below HR1_1.out HB.out)); (case side4 => exact HC1_1.out); rintro e w13 ⟨rfl, hb⟩; replace BK456 := Aside0.mk (blk_below (g := gb456) (o := .cells #[.slice A0_0 l0_0.length c0_0, .slice A0_1 l0_1.length c0_1] 26 (0, 0)) (kU BK456.out) hb); replace BK457 := Aside0.mk (blk_below (g := gb457) (o := .cells #[.slice A1_0 l1_0.length c1_0, .slice A1_1 l1_1.length c1_1] 26 (0, 0)) (kU BK457.out) hb); replace HB := Aside0.mk (below_step (bS2 HB.out GE456.out GE457.out) hb); (try clear hb); (try clear hb2); (try clear hk); (try clear hi)))
   go_meet
   case rel => exact ⟨_, (!t459), (by first | rfl | (simp; done) | (simp [*]; done)), H', ⟨by first | omega | exact Nat.le_refl _⟩, ⟨by refine kU ?_; exact BK456.out⟩, ⟨by refine kU ?_; exact BK457.out⟩, ⟨by exact bS2 HB.out GE456.out GE457.out⟩⟩
  ·
   replace c7 := Bool.eq_false_iff.mpr c7
   subst c7
   have H1 : (spec_Fit.j0 k true l0_0 l0_1 l1_0 l1_1) = some (r1, r2) := by rw [if_neg (show ¬ (false = true) by decide)] at H; exact H
   clear H
   have H := H1
   clear H1
   have H' := Aside0.mk H
   clear H
   have hnb14 := NB456_457.out
   have hnc14 := NB457_456.out
   have hcz15_0 : w5.cell? ⟨gb456, 0, none⟩ = some (.slice A0_0 l0_0.length c0_0) := (blk_cell BK456.out 0).trans rfl
   have hcz15_1 : w5.cell? ⟨gb456, 1, none⟩ = some (.slice A0_1 l0_1.length c0_1) := (blk_cell BK456.out 1).trans rfl
   have hfz15_0 := blk_frozen BK456.out 0
   have hfz15_1 := blk_frozen BK456.out 1
   go_wp2_with (first | ((with_reducible refine gate_callee (f := 74) rfl ?_); refine goesL_ (some 8) rfl rfl Try.func74 (by kernel_rfl) rfl #[.agg #[.slice A0_0 l0_0.length c0_0, .slice A0_1 l0_1.length c0_1]] rfl lU ?_; (with_reducible refine (spec_ArrayOk.calls k _ _ l0_0 _ _ l0_1 false _ ?side1 ?side2 ?side3 ?side4 A6.out).mono ?_); (case side1 => exact cU (Kd.C_below HR0_0.out HB.out)); (case side2 => exact HC0_0.out); (case side3 => exact cU (Kd.C_below HR0_1.out HB.out)); (case side4 => exact HC0_1.out); rintro e w16 ⟨rfl, hb⟩; refine ⟨_, rfl, ?_⟩; replace BK456 := Aside0.mk (blk_below (g := gb456) (o := .cells #[.slice A0_0 l0_0.length c0_0, .slice A0_1 l0_1.length c0_1] 26 (0, 0)) (kU BK456.out) hb); replace BK457 := Aside0.mk (blk_below (g := gb457) (o := .cells #[.slice A1_0 l1_0.length c1_0, .slice A1_1 l1_1.length c1_1] 26 (0, 0)) (kU BK457.out) hb); replace HB := Aside0.mk (below_step (bS2 HB.out GE456.out GE457.out) hb); (try clear hb); (try clear hb2); (try clear hk); (try clear hi)))
   go_meet
   case rel => exact ⟨_, (true), (by first | rfl | (simp; done) | (simp [*]; done)), H', ⟨by first | omega | exact Nat.le_refl _⟩, ⟨by refine kU ?_; exact BK456.out⟩, ⟨by refine kU ?_; exact BK457.out⟩, ⟨by exact bS2 HB.out GE456.out GE457.out⟩⟩
 case rest =>
  clear HC3
  try clear c1
  try clear p2
  try clear c3
  try clear c7
  try clear c9
  try clear c14
  try clear hcz10_0
  try clear hcz10_1
  try clear hcz12_0
  try clear hcz12_1
  try clear hcz15_0
  try clear hcz15_1
  try clear hfz10_0
  try clear hfz10_1
  try clear hfz12_0
  try clear hfz12_1
  try clear hfz15_0
  try clear hfz15_1
  obtain ⟨kq, x6_2, rfl, HA, HJ2, BK456, BK457, HB⟩ := hcut
  cases kq with
  | zero => exact absurd HA.out (by simp [spec_Fit.j0])
  | succ kj2 =>
   have H := HA.out
   clear HA
   simp only [spec_Fit.j0] at H
   by_cases c17 : x6_2 = true
   ·
    subst c17
    have H1 : (some ((([] : List Int)), 1)) = some (r1, r2) := by rw [if_pos rfl] at H; exact H
    clear H
    have H := H1
    clear H1
    obtain ⟨y460, hy460⟩ : ∃ y_ : List Int, y_ = (([] : List Int)) := ⟨_, rfl⟩
    replace H : (some (y460, 1)) = some (r1, r2) := by first | (rw [hy460]; with_reducible exact H) | (have H2_ := (Option.bind_some _ _).symm.trans H; rw [hy460]; with_reducible exact H2_) | (have H2_ := (Option.bind_some _ _).symm.trans H; with_reducible exact H2_) | with_reducible exact H | (rw [hy460]; exact H) | exact H
    have Ny460 := Aside0.mk hy460
    clear hy460
    simp only [Option.some.injEq, Prod.mk.injEq] at H
    obtain ⟨rfl, rfl⟩ := H
    go_wp2_with (first | ((with_reducible refine gate_dst (N := 15) rfl ?_); refine Kd.R_lit (Kd.int .i64) _ 3 ?hg (N := 15) ?hd (xs := ([] : List Int)) (inner := []) (ok := fun _ => True) (okp := fun _ => True) ?hr ?hp (fun _ hk => hk) trivial (Below.refl _ _) (Nat.le_refl _) (by simp) ?_; (case hd => rfl); (case hg => rfl); (case hr => first | (go_simp; done) | (go_simp; rfl)); (case hp => exact (Reps.none _ _)); intro v461 w18 ho19 hb hg_ hnew_; clear hg_ hnew_; (first | rw [← Ny460.out] at ho19 | (simp only [Int.reduceToNat] at ho19; rw [← Ny460.out] at ho19)); have HO462 := Aside0.mk (Kd.R_lower ho19 (below_size (bS2 HB.out GE456.out GE457.out))); replace BK456 := Aside0.mk (blk_below (g := gb456) (o := .cells #[.slice A0_0 l0_0.length c0_0, .slice A0_1 l0_1.length c0_1] 26 (0, 0)) (kU BK456.out) hb); replace BK457 := Aside0.mk (blk_below (g := gb457) (o := .cells #[.slice A1_0 l1_0.length c1_0, .slice A1_1 l1_1.length c1_1] 26 (0, 0)) (kU BK457.out) hb); replace HB := Aside0.mk (below_step (bS2 HB.out GE456.out GE457.out) hb); clear hb ho19))
    go_ret2
    exact ⟨_, by first | rfl | (simp [errW_none, errW_some] <;> rfl) | (simp [*, errW_none, errW_some] <;> rfl), by refine RU ?_; exact HO462.out, by exact bS2 HB.out GE456.out GE457.out⟩
   ·
    replace c17 := Bool.eq_false_iff.mpr c17
    subst c17
    have H1 : (if (l0_0.length : Int) = 0 then ((some (([] : List Int) : List Int)).bind fun y463 => (if y463.length + l1_0.length < 17592186044416 then (some ((y463 ++ l1_0), 0)) else (none))) else (if (l1_0.length : Int) = 0 then ((some (([] : List Int) : List Int)).bind fun y469 => (if y469.length + l0_0.length < 17592186044416 then (some ((y469 ++ l0_0), 0)) else (none))) else (if (l0_0.length : Int) = (l1_0.length : Int) then ((spec_l2Same.f kj2 l0_0 l1_0).bind fun t475 => (if t475 = true then ((some (([] : List Int) : List Int)).bind fun y476 => (if y476.length + l0_0.length < 17592186044416 then (some ((y476 ++ l0_0), 0)) else (none))) else (some ((([] : List Int)), 3)))) else (some ((([] : List Int)), 4))))) = some (r1, r2) := by rw [if_neg (show ¬ (false = true) by decide)] at H; exact H
    clear H
    have H := H1
    clear H1
    by_cases c20 : (l0_0.length : Int) = 0
    ·
     rw [if_pos c20] at H
     have c20b0 : ((l0_0.length : Int) == 0) = true := beq_iff_eq.mpr c20
     have c20b1 : ((l0_0.length : Int) != 0) = false := bne_eq_false_iff_eq.mpr c20
     clear c20
     obtain ⟨y463, hy463⟩ : ∃ y_ : List Int, y_ = (([] : List Int)) := ⟨_, rfl⟩
     replace H : (if y463.length + l1_0.length < 17592186044416 then (some ((y463 ++ l1_0), 0)) else (none)) = some (r1, r2) := by first | (rw [hy463]; with_reducible exact H) | (have H2_ := (Option.bind_some _ _).symm.trans H; rw [hy463]; with_reducible exact H2_) | (have H2_ := (Option.bind_some _ _).symm.trans H; with_reducible exact H2_) | with_reducible exact H | (rw [hy463]; exact H) | exact H
     have Ny463 := Aside0.mk hy463
     clear hy463
     by_cases c21 : y463.length + l1_0.length < 17592186044416
     ·
      rw [if_pos c21] at H
      have LMc21 := Aside0.mk c21
      clear c21
      obtain ⟨y466, hy466⟩ : ∃ y_ : List Int, y_ = (y463 ++ l1_0) := ⟨_, rfl⟩
      replace H : (some (y466, 0)) = some (r1, r2) := by first | (rw [hy466]; with_reducible exact H) | (have H2_ := (Option.bind_some _ _).symm.trans H; rw [hy466]; with_reducible exact H2_) | (have H2_ := (Option.bind_some _ _).symm.trans H; with_reducible exact H2_) | with_reducible exact H | (rw [hy466]; exact H) | exact H
      have Ny466 := Aside0.mk hy466
      clear hy466
      simp only [Option.some.injEq, Prod.mk.injEq] at H
      obtain ⟨rfl, rfl⟩ := H
      have hnb22 := NB456_457.out
      have hnc22 := NB457_456.out
      have hcz23_0 : wc.cell? ⟨gb456, 0, none⟩ = some (.slice A0_0 l0_0.length c0_0) := (blk_cell BK456.out 0).trans rfl
      have hcz23_1 : wc.cell? ⟨gb456, 1, none⟩ = some (.slice A0_1 l0_1.length c0_1) := (blk_cell BK456.out 1).trans rfl
      have hfz23_0 := blk_frozen BK456.out 0
      have hfz23_1 := blk_frozen BK456.out 1
      go_wp2_with (first | ((with_reducible refine gate_dst (N := 21) rfl ?_); refine Kd.R_lit (Kd.int .i64) _ 3 ?hg (N := 21) ?hd (xs := ([] : List Int)) (inner := []) (ok := fun _ => True) (okp := fun _ => True) ?hr ?hp (fun _ hk => hk) trivial (Below.refl _ _) (Nat.le_refl _) (by simp) ?_; (case hd => rfl); (case hg => rfl); (case hr => first | (go_simp; done) | (go_simp; rfl)); (case hp => exact (Reps.none _ _)); intro v464 w24 ho25 hb hg_ hnew_; clear hg_ hnew_; (first | rw [← Ny463.out] at ho25 | (simp only [Int.reduceToNat] at ho25; rw [← Ny463.out] at ho25)); have HO465 := Aside0.mk (Kd.R_lower ho25 (below_size (bS2 HB.out GE456.out GE457.out))); replace BK456 := Aside0.mk (blk_below (g := gb456) (o := .cells #[.slice A0_0 l0_0.length c0_0, .slice A0_1 l0_1.length c0_1] 26 (0, 0)) (kU BK456.out) hb); replace BK457 := Aside0.mk (blk_below (g := gb457) (o := .cells #[.slice A1_0 l1_0.length c1_0, .slice A1_1 l1_1.length c1_1] 26 (0, 0)) (kU BK457.out) hb); replace HB := Aside0.mk (below_step (bS2 HB.out GE456.out GE457.out) hb); clear hb ho25; have hcz26_0 : w24.cell? ⟨gb457, 0, none⟩ = some (.slice A1_0 l1_0.length c1_0) := (blk_cell BK457.out 0).trans rfl; have hcz26_1 : w24.cell? ⟨gb457, 1, none⟩ = some (.slice A1_1 l1_1.length c1_1) := (blk_cell BK457.out 1).trans rfl; have hfz26_0 := blk_frozen BK457.out 0; have hfz26_1 := blk_frozen BK457.out 1) | ((with_reducible refine gate_builtin (b := .append) (xs := #[.tmp 21, .tmp 23]) rfl ?_); at_builtin; refine Kd.R_append_rows (Kd.int .i64) (w0 := w) w.heap.size rfl (.tmp 21) (.tmp 23) 24 3 (.int .i64 0) 8 rfl Try.underlying24 info3 rfl (by decide) (by omega) v464 y463 l1_0 _ _ _ (fun _ => True) (fun _ => False) rfl rfl ?aO ?aR (fun _ _ h => h) (fun _ h => h.elim) ?aF ?aB ?aS ?aL ?_; (case aR => exact cU (Kd.C_below HR1_0.out HB.out)); (case aB => exact (bS2 HB.out GE456.out GE457.out)); (case aF => exact (fun _ _ => trivial)); (case aO => exact (RU HO465.out)); (case aS => exact (below_size (bS2 HB.out GE456.out GE457.out))); (case aL => have := LMc21.out; omega); intro v467 w27 ho hb hg hat; rw [← Ny466.out] at ho; have n0_ := Aside0.mk (blk_grown (g := gb456) (o := .cells #[.slice A0_0 l0_0.length c0_0, .slice A0_1 l0_1.length c0_1] 26 (0, 0)) (kU BK456.out) hg (Kd.R_ne HO465.out BK456.out (by decide))); have n1_ := Aside0.mk (blk_grown (g := gb457) (o := .cells #[.slice A1_0 l1_0.length c1_0, .slice A1_1 l1_1.length c1_1] 26 (0, 0)) (kU BK457.out) hg (Kd.R_ne HO465.out BK457.out (by decide))); have n2_ := Aside0.mk (hb); have n3_ := Aside0.mk (ho); clear BK456; clear BK457; clear HB; clear HO465; have BK456 := n0_; have BK457 := n1_; have HB := n2_; have HO468 := n3_; clear n0_ n1_ n2_ n3_; clear ho hb hg hat))
      go_ret2
      exact ⟨_, by first | rfl | (simp [errW_none, errW_some] <;> rfl) | (simp [*, errW_none, errW_some] <;> rfl), by refine RU ?_; exact HO468.out, by exact bS2 HB.out GE456.out GE457.out⟩
     ·
      rw [if_neg c21] at H
      exact absurd H (by simp)
    ·
     rw [if_neg c20] at H
     have c20b0 : ((l0_0.length : Int) == 0) = false := beq_eq_false_iff_ne.mpr c20
     have c20b1 : ((l0_0.length : Int) != 0) = true := bne_iff_ne.mpr c20
     have c20b2 : ¬ (l0_0 = []) := fun h_ => c20 (by rw [h_]; rfl)
     by_cases c28 : (l1_0.length : Int) = 0
     ·
      rw [if_pos c28] at H
      have c28b0 : ((l1_0.length : Int) == 0) = true := beq_iff_eq.mpr c28
      have c28b1 : ((l1_0.length : Int) != 0) = false := bne_eq_false_iff_eq.mpr c28
      clear c28
      obtain ⟨y469, hy469⟩ : ∃ y_ : List Int, y_ = (([] : List Int)) := ⟨_, rfl⟩
      replace H : (if y469.length + l0_0.length < 17592186044416 then (some ((y469 ++ l0_0), 0)) else (none)) = some (r1, r2) := by first | (rw [hy469]; with_reducible exact H) | (have H2_ := (Option.bind_some _ _).symm.trans H; rw [hy469]; with_reducible exact H2_) | (have H2_ := (Option.bind_some _ _).symm.trans H; with_reducible exact H2_) | with_reducible exact H | (rw [hy469]; exact H) | exact H
      have Ny469 := Aside0.mk hy469
      clear hy469
      by_cases c29 : y469.length + l0_0.length < 17592186044416
      ·
       rw [if_pos c29] at H
       have LMc29 := Aside0.mk c29
       clear c29
       obtain ⟨y472, hy472⟩ : ∃ y_ : List Int, y_ = (y469 ++ l0_0) := ⟨_, rfl⟩
       replace H : (some (y472, 0)) = some (r1, r2) := by first | (rw [hy472]; with_reducible exact H) | (have H2_ := (Option.bind_some _ _).symm.trans H; rw [hy472]; with_reducible exact H2_) | (have H2_ := (Option.bind_some _ _).symm.trans H; with_reducible exact H2_) | with_reducible exact H | (rw [hy472]; exact H) | exact H
       have Ny472 := Aside0.mk hy472
       clear hy472
       simp only [Option.some.injEq, Prod.mk.injEq] at H
       obtain ⟨rfl, rfl⟩ := H
       have hnb30 := NB456_457.out
       have hnc30 := NB457_456.out
       have hcz31_0 : wc.cell? ⟨gb456, 0, none⟩ = some (.slice A0_0 l0_0.length c0_0) := (blk_cell BK456.out 0).trans rfl
       have hcz31_1 : wc.cell? ⟨gb456, 1, none⟩ = some (.slice A0_1 l0_1.length c0_1) := (blk_cell BK456.out 1).trans rfl
       have hfz31_0 := blk_frozen BK456.out 0
       have hfz31_1 := blk_frozen BK456.out 1
       have hcz32_0 : wc.cell? ⟨gb457, 0, none⟩ = some (.slice A1_0 l1_0.length c1_0) := (blk_cell BK457.out 0).trans rfl
       have hcz32_1 : wc.cell? ⟨gb457, 1, none⟩ = some (.slice A1_1 l1_1.length c1_1) := (blk_cell BK457.out 1).trans rfl
       have hfz32_0 := blk_frozen BK457.out 0
       have hfz32_1 := blk_frozen BK457.out 1
       go_wp2_with (first | ((with_reducible refine gate_dst (N := 30) rfl ?_); refine Kd.R_lit (Kd.int .i64) _ 3 ?hg (N := 30) ?hd (xs := ([] : List Int)) (inner := []) (ok := fun _ => True) (okp := fun _ => True) ?hr ?hp (fun _ hk => hk) trivial (Below.refl _ _) (Nat.le_refl _) (by simp) ?_; (case hd => rfl); (case hg => rfl); (case hr => first | (go_simp; done) | (go_simp; rfl)); (case hp => exact (Reps.none _ _)); intro v470 w33 ho34 hb hg_ hnew_; clear hg_ hnew_; (first | rw [← Ny469.out] at ho34 | (simp only [Int.reduceToNat] at ho34; rw [← Ny469.out] at ho34)); have HO471 := Aside0.mk (Kd.R_lower ho34 (below_size (bS2 HB.out GE456.out GE457.out))); replace BK456 := Aside0.mk (blk_below (g := gb456) (o := .cells #[.slice A0_0 l0_0.length c0_0, .slice A0_1 l0_1.length c0_1] 26 (0, 0)) (kU BK456.out) hb); replace BK457 := Aside0.mk (blk_below (g := gb457) (o := .cells #[.slice A1_0 l1_0.length c1_0, .slice A1_1 l1_1.length c1_1] 26 (0, 0)) (kU BK457.out) hb); replace HB := Aside0.mk (below_step (bS2 HB.out GE456.out GE457.out) hb); clear hb ho34; have hcz35_0 : w33.cell? ⟨gb456, 0, none⟩ = some (.slice A0_0 l0_0.length c0_0) := (blk_cell BK456.out 0).trans rfl; have hcz35_1 : w33.cell? ⟨gb456, 1, none⟩ = some (.slice A0_1 l0_1.length c0_1) := (blk_cell BK456.out 1).trans rfl; have hfz35_0 := blk_frozen BK456.out 0; have hfz35_1 := blk_frozen BK456.out 1) | ((with_reducible refine gate_builtin (b := .append) (xs := #[.tmp 30, .tmp 32]) rfl ?_); at_builtin; refine Kd.R_append_rows (Kd.int .i64) (w0 := w) w.heap.size rfl (.tmp 30) (.tmp 32) 24 3 (.int .i64 0) 8 rfl Try.underlying24 info3 rfl (by decide) (by omega) v470 y469 l0_0 _ _ _ (fun _ => True) (fun _ => False) rfl rfl ?aO ?aR (fun _ _ h => h) (fun _ h => h.elim) ?aF ?aB ?aS ?aL ?_; (case aR => exact cU (Kd.C_below HR0_0.out HB.out)); (case aB => exact (bS2 HB.out GE456.out GE457.out)); (case aF => exact (fun _ _ => trivial)); (case aO => exact (RU HO471.out)); (case aS => exact (below_size (bS2 HB.out GE456.out GE457.out))); (case aL => have := LMc29.out; omega); intro v473 w36 ho hb hg hat; rw [← Ny472.out] at ho; have n0_ := Aside0.mk (blk_grown (g := gb456) (o := .cells #[.slice A0_0 l0_0.length c0_0, .slice A0_1 l0_1.length c0_1] 26 (0, 0)) (kU BK456.out) hg (Kd.R_ne HO471.out BK456.out (by decide))); have n1_ := Aside0.mk (blk_grown (g := gb457) (o := .cells #[.slice A1_0 l1_0.length c1_0, .slice A1_1 l1_1.length c1_1] 26 (0, 0)) (kU BK457.out) hg (Kd.R_ne HO471.out BK457.out (by decide))); have n2_ := Aside0.mk (hb); have n3_ := Aside0.mk (ho); clear BK456; clear BK457; clear HB; clear HO471; have BK456 := n0_; have BK457 := n1_; have HB := n2_; have HO474 := n3_; clear n0_ n1_ n2_ n3_; clear ho hb hg hat))
       go_ret2
       exact ⟨_, by first | rfl | (simp [errW_none, errW_some] <;> rfl) | (simp [*, errW_none, errW_some] <;> rfl), by refine RU ?_; exact HO474.out, by exact bS2 HB.out GE456.out GE457.out⟩
      ·
       rw [if_neg c29] at H
       exact absurd H (by simp)
     ·
      rw [if_neg c28] at H
      have c28b0 : ((l1_0.length : Int) == 0) = false := beq_eq_false_iff_ne.mpr c28
      have c28b1 : ((l1_0.length : Int) != 0) = true := bne_iff_ne.mpr c28
      have c28b2 : ¬ (l1_0 = []) := fun h_ => c28 (by rw [h_]; rfl)
      by_cases c37 : (l0_0.length : Int) = (l1_0.length : Int)
      ·
       rw [if_pos c37] at H
       have c37b0 : ((l0_0.length : Int) == (l1_0.length : Int)) = true := beq_iff_eq.mpr c37
       have c37b1 : ((l0_0.length : Int) != (l1_0.length : Int)) = false := bne_eq_false_iff_eq.mpr c37
       have c37b2 : (l0_0.length == l1_0.length) = true := by first | simpa using c37 | (simp at c37 ⊢; omega)
       clear c37
       replace H := Option.bind_eq_some_iff.mp H
       obtain ⟨t475, A380, H⟩ := H
       replace H : (if t475 = true then ((some (([] : List Int) : List Int)).bind fun y476 => (if y476.length + l0_0.length < 17592186044416 then (some ((y476 ++ l0_0), 0)) else (none))) else (some ((([] : List Int)), 3))) = some (r1, r2) := H
       have A38 := Aside0.mk A380
       clear A380
       by_cases c39 : t475 = true
       ·
        subst c39
        have H1 : ((some (([] : List Int) : List Int)).bind fun y476 => (if y476.length + l0_0.length < 17592186044416 then (some ((y476 ++ l0_0), 0)) else (none))) = some (r1, r2) := by rw [if_pos rfl] at H; exact H
        clear H
        have H := H1
        clear H1
        obtain ⟨y476, hy476⟩ : ∃ y_ : List Int, y_ = (([] : List Int)) := ⟨_, rfl⟩
        replace H : (if y476.length + l0_0.length < 17592186044416 then (some ((y476 ++ l0_0), 0)) else (none)) = some (r1, r2) := by first | (rw [hy476]; with_reducible exact H) | (have H2_ := (Option.bind_some _ _).symm.trans H; rw [hy476]; with_reducible exact H2_) | (have H2_ := (Option.bind_some _ _).symm.trans H; with_reducible exact H2_) | with_reducible exact H | (rw [hy476]; exact H) | exact H
        have Ny476 := Aside0.mk hy476
        clear hy476
        by_cases c40 : y476.length + l0_0.length < 17592186044416
        ·
         rw [if_pos c40] at H
         have LMc40 := Aside0.mk c40
         clear c40
         obtain ⟨y479, hy479⟩ : ∃ y_ : List Int, y_ = (y476 ++ l0_0) := ⟨_, rfl⟩
         replace H : (some (y479, 0)) = some (r1, r2) := by first | (rw [hy479]; with_reducible exact H) | (have H2_ := (Option.bind_some _ _).symm.trans H; rw [hy479]; with_reducible exact H2_) | (have H2_ := (Option.bind_some _ _).symm.trans H; with_reducible exact H2_) | with_reducible exact H | (rw [hy479]; exact H) | exact H
         have Ny479 := Aside0.mk hy479
         clear hy479
         simp only [Option.some.injEq, Prod.mk.injEq] at H
         obtain ⟨rfl, rfl⟩ := H
         have hnb41 := NB456_457.out
         have hnc41 := NB457_456.out
         have hcz42_0 : wc.cell? ⟨gb456, 0, none⟩ = some (.slice A0_0 l0_0.length c0_0) := (blk_cell BK456.out 0).trans rfl
         have hcz42_1 : wc.cell? ⟨gb456, 1, none⟩ = some (.slice A0_1 l0_1.length c0_1) := (blk_cell BK456.out 1).trans rfl
         have hfz42_0 := blk_frozen BK456.out 0
         have hfz42_1 := blk_frozen BK456.out 1
         have hcz43_0 : wc.cell? ⟨gb457, 0, none⟩ = some (.slice A1_0 l1_0.length c1_0) := (blk_cell BK457.out 0).trans rfl
         have hcz43_1 : wc.cell? ⟨gb457, 1, none⟩ = some (.slice A1_1 l1_1.length c1_1) := (blk_cell BK457.out 1).trans rfl
         have hfz43_0 := blk_frozen BK457.out 0
         have hfz43_1 := blk_frozen BK457.out 1
         go_wp2_with (first | ((with_reducible refine gate_callee (f := 86) rfl ?_); refine goesL_ (some 48) rfl rfl Try.func86 (by kernel_rfl) rfl #[.slice A0_0 l0_0.length c0_0, .slice A1_0 l1_0.length c1_0] rfl lU ?_; (with_reducible refine (spec_l2Same.calls kj2 _ _ l0_0 _ _ l1_0 true _ ?side1 ?side2 ?side3 ?side4 A38.out).mono ?_); (case side1 => exact cU (Kd.C_below HR0_0.out HB.out)); (case side2 => exact HC0_0.out); (case side3 => exact cU (Kd.C_below HR1_0.out HB.out)); (case side4 => exact HC1_0.out); rintro e w' ⟨rfl, ⟨nd, rfl⟩⟩; refine ⟨_, rfl, ?_⟩) | ((with_reducible refine gate_dst (N := 51) rfl ?_); refine Kd.R_lit (Kd.int .i64) _ 3 ?hg (N := 51) ?hd (xs := ([] : List Int)) (inner := []) (ok := fun _ => True) (okp := fun _ => True) ?hr ?hp (fun _ hk => hk) trivial (Below.refl _ _) (Nat.le_refl _) (by simp) ?_; (case hd => rfl); (case hg => rfl); (case hr => first | (go_simp; done) | (go_simp; rfl)); (case hp => exact (Reps.none _ _)); intro v477 w44 ho45 hb hg_ hnew_; clear hg_ hnew_; (first | rw [← Ny476.out] at ho45 | (simp only [Int.reduceToNat] at ho45; rw [← Ny476.out] at ho45)); have HO478 := Aside0.mk (Kd.R_lower ho45 (below_size (bS2 HB.out GE456.out GE457.out))); replace BK456 := Aside0.mk (blk_below (g := gb456) (o := .cells #[.slice A0_0 l0_0.length c0_0, .slice A0_1 l0_1.length c0_1] 26 (0, 0)) (kU BK456.out) hb); replace BK457 := Aside0.mk (blk_below (g := gb457) (o := .cells #[.slice A1_0 l1_0.length c1_0, .slice A1_1 l1_1.length c1_1] 26 (0, 0)) (kU BK457.out) hb); replace HB := Aside0.mk (below_step (bS2 HB.out GE456.out GE457.out) hb); clear hb ho45; have hcz46_0 : w44.cell? ⟨gb456, 0, none⟩ = some (.slice A0_0 l0_0.length c0_0) := (blk_cell BK456.out 0).trans rfl; have hcz46_1 : w44.cell? ⟨gb456, 1, none⟩ = some (.slice A0_1 l0_1.length c0_1) := (blk_cell BK456.out 1).trans rfl; have hfz46_0 := blk_frozen BK456.out 0; have hfz46_1 := blk_frozen BK456.out 1) | ((with_reducible refine gate_builtin (b := .append) (xs := #[.tmp 51, .tmp 53]) rfl ?_); at_builtin; refine Kd.R_append_rows (Kd.int .i64) (w0 := w) w.heap.size rfl (.tmp 51) (.tmp 53) 24 3 (.int .i64 0) 8 rfl Try.underlying24 info3 rfl (by decide) (by omega) v477 y476 l0_0 _ _ _ (fun _ => True) (fun _ => False) rfl rfl ?aO ?aR (fun _ _ h => h) (fun _ h => h.elim) ?aF ?aB ?aS ?aL ?_; (case aR => exact cU (Kd.C_below HR0_0.out HB.out)); (case aB => exact (bS2 HB.out GE456.out GE457.out)); (case aF => exact (fun _ _ => trivial)); (case aO => exact (RU HO478.out)); (case aS => exact (below_size (bS2 HB.out GE456.out GE457.out))); (case aL => have := LMc40.out; omega); intro v480 w47 ho hb hg hat; rw [← Ny479.out] at ho; have n0_ := Aside0.mk (blk_grown (g := gb456) (o := .cells #[.slice A0_0 l0_0.length c0_0, .slice A0_1 l0_1.length c0_1] 26 (0, 0)) (kU BK456.out) hg (Kd.R_ne HO478.out BK456.out (by decide))); have n1_ := Aside0.mk (blk_grown (g := gb457) (o := .cells #[.slice A1_0 l1_0.length c1_0, .slice A1_1 l1_1.length c1_1] 26 (0, 0)) (kU BK457.out) hg (Kd.R_ne HO478.out BK457.out (by decide))); have n2_ := Aside0.mk (hb); have n3_ := Aside0.mk (ho); clear BK456; clear BK457; clear HB; clear HO478; have BK456 := n0_; have BK457 := n1_; have HB := n2_; have HO481 := n3_; clear n0_ n1_ n2_ n3_; clear ho hb hg hat))
         go_ret2
         exact ⟨_, by first | rfl | (simp [errW_none, errW_some] <;> rfl) | (simp [*, errW_none, errW_some] <;> rfl), by refine RU ?_; exact HO481.out, by exact bS2 HB.out GE456.out GE457.out⟩
        ·
         rw [if_neg c40] at H
         exact absurd H (by simp)
       ·
        replace c39 := Bool.eq_false_iff.mpr c39
        subst c39
        have H1 : (some ((([] : List Int)), 3)) = some (r1, r2) := by rw [if_neg (show ¬ (false = true) by decide)] at H; exact H
        clear H
        have H := H1
        clear H1
        obtain ⟨y482, hy482⟩ : ∃ y_ : List Int, y_ = (([] : List Int)) := ⟨_, rfl⟩
        replace H : (some (y482, 3)) = some (r1, r2) := by first | (rw [hy482]; with_reducible exact H) | (have H2_ := (Option.bind_some _ _).symm.trans H; rw [hy482]; with_reducible exact H2_) | (have H2_ := (Option.bind_some _ _).symm.trans H; with_reducible exact H2_) | with_reducible exact H | (rw [hy482]; exact H) | exact H
        have Ny482 := Aside0.mk hy482
        clear hy482
        simp only [Option.some.injEq, Prod.mk.injEq] at H
        obtain ⟨rfl, rfl⟩ := H
        have hnb48 := NB456_457.out
        have hnc48 := NB457_456.out
        have hcz49_0 : wc.cell? ⟨gb456, 0, none⟩ = some (.slice A0_0 l0_0.length c0_0) := (blk_cell BK456.out 0).trans rfl
        have hcz49_1 : wc.cell? ⟨gb456, 1, none⟩ = some (.slice A0_1 l0_1.length c0_1) := (blk_cell BK456.out 1).trans rfl
        have hfz49_0 := blk_frozen BK456.out 0
        have hfz49_1 := blk_frozen BK456.out 1
        have hcz50_0 : wc.cell? ⟨gb457, 0, none⟩ = some (.slice A1_0 l1_0.length c1_0) := (blk_cell BK457.out 0).trans rfl
        have hcz50_1 : wc.cell? ⟨gb457, 1, none⟩ = some (.slice A1_1 l1_1.length c1_1) := (blk_cell BK457.out 1).trans rfl
        have hfz50_0 := blk_frozen BK457.out 0
        have hfz50_1 := blk_frozen BK457.out 1
        go_wp2_with (first | ((with_reducible refine gate_callee (f := 86) rfl ?_); refine goesL_ (some 48) rfl rfl Try.func86 (by kernel_rfl) rfl #[.slice A0_0 l0_0.length c0_0, .slice A1_0 l1_0.length c1_0] rfl lU ?_; (with_reducible refine (spec_l2Same.calls kj2 _ _ l0_0 _ _ l1_0 false _ ?side1 ?side2 ?side3 ?side4 A38.out).mono ?_); (case side1 => exact cU (Kd.C_below HR0_0.out HB.out)); (case side2 => exact HC0_0.out); (case side3 => exact cU (Kd.C_below HR1_0.out HB.out)); (case side4 => exact HC1_0.out); rintro e w' ⟨rfl, ⟨nd, rfl⟩⟩; refine ⟨_, rfl, ?_⟩) | ((with_reducible refine gate_dst (N := 50) rfl ?_); refine Kd.R_lit (Kd.int .i64) _ 3 ?hg (N := 50) ?hd (xs := ([] : List Int)) (inner := []) (ok := fun _ => True) (okp := fun _ => True) ?hr ?hp (fun _ hk => hk) trivial (Below.refl _ _) (Nat.le_refl _) (by simp) ?_; (case hd => rfl); (case hg => rfl); (case hr => first | (go_simp; done) | (go_simp; rfl)); (case hp => exact (Reps.none _ _)); intro v483 w51 ho52 hb hg_ hnew_; clear hg_ hnew_; (first | rw [← Ny482.out] at ho52 | (simp only [Int.reduceToNat] at ho52; rw [← Ny482.out] at ho52)); have HO484 := Aside0.mk (Kd.R_lower ho52 (below_size (bS2 HB.out GE456.out GE457.out))); replace BK456 := Aside0.mk (blk_below (g := gb456) (o := .cells #[.slice A0_0 l0_0.length c0_0, .slice A0_1 l0_1.length c0_1] 26 (0, 0)) (kU BK456.out) hb); replace BK457 := Aside0.mk (blk_below (g := gb457) (o := .cells #[.slice A1_0 l1_0.length c1_0, .slice A1_1 l1_1.length c1_1] 26 (0, 0)) (kU BK457.out) hb); replace HB := Aside0.mk (below_step (bS2 HB.out GE456.out GE457.out) hb); clear hb ho52))
        go_ret2
        exact ⟨_, by first | rfl | (simp [errW_none, errW_some] <;> rfl) | (simp [*, errW_none, errW_some] <;> rfl), by refine RU ?_; exact HO484.out, by exact bS2 HB.out GE456.out GE457.out⟩
      ·
       rw [if_neg c37] at H
       have c37b0 : ((l0_0.length : Int) == (l1_0.length : Int)) = false := beq_eq_false_iff_ne.mpr c37
       have c37b1 : ((l0_0.length : Int) != (l1_0.length : Int)) = true := bne_iff_ne.mpr c37
       have c37b2 : (l0_0.length == l1_0.length) = false := by first | simpa using c37 | (simp at c37 ⊢; omega)
       obtain ⟨y485, hy485⟩ : ∃ y_ : List Int, y_ = (([] : List Int)) := ⟨_, rfl⟩
       replace H : (some (y485, 4)) = some (r1, r2) := by first | (rw [hy485]; with_reducible exact H) | (have H2_ := (Option.bind_some _ _).symm.trans H; rw [hy485]; with_reducible exact H2_) | (have H2_ := (Option.bind_some _ _).symm.trans H; with_reducible exact H2_) | with_reducible exact H | (rw [hy485]; exact H) | exact H
       have Ny485 := Aside0.mk hy485
       clear hy485
       simp only [Option.some.injEq, Prod.mk.injEq] at H
       obtain ⟨rfl, rfl⟩ := H
       have hnb53 := NB456_457.out
       have hnc53 := NB457_456.out
       have hcz54_0 : wc.cell? ⟨gb456, 0, none⟩ = some (.slice A0_0 l0_0.length c0_0) := (blk_cell BK456.out 0).trans rfl
       have hcz54_1 : wc.cell? ⟨gb456, 1, none⟩ = some (.slice A0_1 l0_1.length c0_1) := (blk_cell BK456.out 1).trans rfl
       have hfz54_0 := blk_frozen BK456.out 0
       have hfz54_1 := blk_frozen BK456.out 1
       have hcz55_0 : wc.cell? ⟨gb457, 0, none⟩ = some (.slice A1_0 l1_0.length c1_0) := (blk_cell BK457.out 0).trans rfl
       have hcz55_1 : wc.cell? ⟨gb457, 1, none⟩ = some (.slice A1_1 l1_1.length c1_1) := (blk_cell BK457.out 1).trans rfl
       have hfz55_0 := blk_frozen BK457.out 0
       have hfz55_1 := blk_frozen BK457.out 1
       go_wp2_with (first | ((with_reducible refine gate_dst (N := 42) rfl ?_); refine Kd.R_lit (Kd.int .i64) _ 3 ?hg (N := 42) ?hd (xs := ([] : List Int)) (inner := []) (ok := fun _ => True) (okp := fun _ => True) ?hr ?hp (fun _ hk => hk) trivial (Below.refl _ _) (Nat.le_refl _) (by simp) ?_; (case hd => rfl); (case hg => rfl); (case hr => first | (go_simp; done) | (go_simp; rfl)); (case hp => exact (Reps.none _ _)); intro v486 w56 ho57 hb hg_ hnew_; clear hg_ hnew_; (first | rw [← Ny485.out] at ho57 | (simp only [Int.reduceToNat] at ho57; rw [← Ny485.out] at ho57)); have HO487 := Aside0.mk (Kd.R_lower ho57 (below_size (bS2 HB.out GE456.out GE457.out))); replace BK456 := Aside0.mk (blk_below (g := gb456) (o := .cells #[.slice A0_0 l0_0.length c0_0, .slice A0_1 l0_1.length c0_1] 26 (0, 0)) (kU BK456.out) hb); replace BK457 := Aside0.mk (blk_below (g := gb457) (o := .cells #[.slice A1_0 l1_0.length c1_0, .slice A1_1 l1_1.length c1_1] 26 (0, 0)) (kU BK457.out) hb); replace HB := Aside0.mk (below_step (bS2 HB.out GE456.out GE457.out) hb); clear hb ho57))
       go_ret2
       exact ⟨_, by first | rfl | (simp [errW_none, errW_some] <;> rfl) | (simp [*, errW_none, errW_some] <;> rfl), by refine RU ?_; exact HO487.out, by exact bS2 HB.out GE456.out GE457.out⟩

/-! ### spec_l1Sign2: function 75 -/
def spec_l1Sign2.f (a0 : Int) : Option (Bool) := if a0 = 43 then (some true) else (if a0 = 45 then (some true) else (if a0 = 42 then (some true) else (if a0 = 37 then (some true) else (if a0 = 124 then (some true) else (if a0 = 38 then (some true) else (if a0 = 94 then (some true) else (if a0 = 61 then (some true) else (if a0 = 60 then (some true) else (some (a0 == 62))))))))))
set_option maxHeartbeats 8000000 in
set_option maxRecDepth 100000 in
theorem spec_l1Sign2.calls (a0 : Int) (r : Bool) (w : World) (h : spec_l1Sign2.f a0 = some r) :
  Calls Try.prog 75 #[.int .i64 a0] w fun e w' => e = .returned (.bool r) ∧ Drawn0 w w' := by
 have H : (if a0 = 43 then (some true) else (if a0 = 45 then (some true) else (if a0 = 42 then (some true) else (if a0 = 37 then (some true) else (if a0 = 124 then (some true) else (if a0 = 38 then (some true) else (if a0 = 94 then (some true) else (if a0 = 61 then (some true) else (if a0 = 60 then (some true) else (some (a0 == 62))))))))))) = some r := h
 clear h
 by_cases c2 : a0 = 43
 ·
  rw [if_pos c2] at H
  have c2b0 : (a0 == 43) = true := beq_iff_eq.mpr c2
  have c2b1 : (a0 != 43) = false := bne_eq_false_iff_eq.mpr c2
  clear c2
  obtain rfl := Option.some.inj H
  go_enter Try.func75, Try.ntmps75
  go_wp2
  go_ret
  exact ⟨rU, dU⟩
 ·
  rw [if_neg c2] at H
  have c2b0 : (a0 == 43) = false := beq_eq_false_iff_ne.mpr c2
  have c2b1 : (a0 != 43) = true := bne_iff_ne.mpr c2
  by_cases c3 : a0 = 45
  ·
   rw [if_pos c3] at H
   have c3b0 : (a0 == 45) = true := beq_iff_eq.mpr c3
   have c3b1 : (a0 != 45) = false := bne_eq_false_iff_eq.mpr c3
   clear c3
   obtain rfl := Option.some.inj H
   go_enter Try.func75, Try.ntmps75
   go_wp2
   go_ret
   exact ⟨rU, dU⟩
  ·
   rw [if_neg c3] at H
   have c3b0 : (a0 == 45) = false := beq_eq_false_iff_ne.mpr c3
   have c3b1 : (a0 != 45) = true := bne_iff_ne.mpr c3
   by_cases c4 : a0 = 42
   ·
    rw [if_pos c4] at H
    have c4b0 : (a0 == 42) = true := beq_iff_eq.mpr c4
    have c4b1 : (a0 != 42) = false := bne_eq_false_iff_eq.mpr c4
    clear c4
    obtain rfl := Option.some.inj H
    go_enter Try.func75, Try.ntmps75
    go_wp2
    go_ret
    exact ⟨rU, dU⟩
   ·
    rw [if_neg c4] at H
    have c4b0 : (a0 == 42) = false := beq_eq_false_iff_ne.mpr c4
    have c4b1 : (a0 != 42) = true := bne_iff_ne.mpr c4
    by_cases c5 : a0 = 37
    ·
     rw [if_pos c5] at H
     have c5b0 : (a0 == 37) = true := beq_iff_eq.mpr c5
     have c5b1 : (a0 != 37) = false := bne_eq_false_iff_eq.mpr c5
     clear c5
     obtain rfl := Option.some.inj H
     go_enter Try.func75, Try.ntmps75
     go_wp2
     go_ret
     exact ⟨rU, dU⟩
    ·
     rw [if_neg c5] at H
     have c5b0 : (a0 == 37) = false := beq_eq_false_iff_ne.mpr c5
     have c5b1 : (a0 != 37) = true := bne_iff_ne.mpr c5
     by_cases c6 : a0 = 124
     ·
      rw [if_pos c6] at H
      have c6b0 : (a0 == 124) = true := beq_iff_eq.mpr c6
      have c6b1 : (a0 != 124) = false := bne_eq_false_iff_eq.mpr c6
      clear c6
      obtain rfl := Option.some.inj H
      go_enter Try.func75, Try.ntmps75
      go_wp2
      go_ret
      exact ⟨rU, dU⟩
     ·
      rw [if_neg c6] at H
      have c6b0 : (a0 == 124) = false := beq_eq_false_iff_ne.mpr c6
      have c6b1 : (a0 != 124) = true := bne_iff_ne.mpr c6
      by_cases c7 : a0 = 38
      ·
       rw [if_pos c7] at H
       have c7b0 : (a0 == 38) = true := beq_iff_eq.mpr c7
       have c7b1 : (a0 != 38) = false := bne_eq_false_iff_eq.mpr c7
       clear c7
       obtain rfl := Option.some.inj H
       go_enter Try.func75, Try.ntmps75
       go_wp2
       go_ret
       exact ⟨rU, dU⟩
      ·
       rw [if_neg c7] at H
       have c7b0 : (a0 == 38) = false := beq_eq_false_iff_ne.mpr c7
       have c7b1 : (a0 != 38) = true := bne_iff_ne.mpr c7
       by_cases c8 : a0 = 94
       ·
        rw [if_pos c8] at H
        have c8b0 : (a0 == 94) = true := beq_iff_eq.mpr c8
        have c8b1 : (a0 != 94) = false := bne_eq_false_iff_eq.mpr c8
        clear c8
        obtain rfl := Option.some.inj H
        go_enter Try.func75, Try.ntmps75
        go_wp2
        go_ret
        exact ⟨rU, dU⟩
       ·
        rw [if_neg c8] at H
        have c8b0 : (a0 == 94) = false := beq_eq_false_iff_ne.mpr c8
        have c8b1 : (a0 != 94) = true := bne_iff_ne.mpr c8
        by_cases c9 : a0 = 61
        ·
         rw [if_pos c9] at H
         have c9b0 : (a0 == 61) = true := beq_iff_eq.mpr c9
         have c9b1 : (a0 != 61) = false := bne_eq_false_iff_eq.mpr c9
         clear c9
         obtain rfl := Option.some.inj H
         go_enter Try.func75, Try.ntmps75
         go_wp2
         go_ret
         exact ⟨rU, dU⟩
        ·
         rw [if_neg c9] at H
         have c9b0 : (a0 == 61) = false := beq_eq_false_iff_ne.mpr c9
         have c9b1 : (a0 != 61) = true := bne_iff_ne.mpr c9
         by_cases c10 : a0 = 60
         ·
          rw [if_pos c10] at H
          have c10b0 : (a0 == 60) = true := beq_iff_eq.mpr c10
          have c10b1 : (a0 != 60) = false := bne_eq_false_iff_eq.mpr c10
          clear c10
          obtain rfl := Option.some.inj H
          go_enter Try.func75, Try.ntmps75
          go_wp2
          go_ret
          exact ⟨rU, dU⟩
         ·
          rw [if_neg c10] at H
          have c10b0 : (a0 == 60) = false := beq_eq_false_iff_ne.mpr c10
          have c10b1 : (a0 != 60) = true := bne_iff_ne.mpr c10
          obtain rfl := Option.some.inj H
          go_enter Try.func75, Try.ntmps75
          go_wp2
          go_ret
          exact ⟨rU, dU⟩

/-! ### spec_l1Max: function 92 -/
def spec_l1Max.f (a0 : Int) (a1 : Int) : Option (Int) := if a0 > a1 then (some a0) else (some a1)
set_option maxHeartbeats 8000000 in
set_option maxRecDepth 100000 in
theorem spec_l1Max.calls (a0 : Int) (a1 : Int) (r : Int) (w : World) (h : spec_l1Max.f a0 a1 = some r) :
  Calls Try.prog 92 #[.int .i64 a0, .int .i64 a1] w fun e w' => e = .returned (.int .i64 r) ∧ Drawn0 w w' := by
 have H : (if a0 > a1 then (some a0) else (some a1)) = some r := h
 clear h
 by_cases c3 : a0 > a1
 ·
  rw [if_pos c3] at H
  have c3b0 : decide (a1 < a0) = true := decide_eq_true c3
  clear c3
  obtain rfl := Option.some.inj H
  go_enter Try.func92, Try.ntmps92
  go_wp2
  go_ret
  exact ⟨rU, dU⟩
 ·
  rw [if_neg c3] at H
  have c3b0 : decide (a1 < a0) = false := decide_eq_false c3
  clear c3
  obtain rfl := Option.some.inj H
  go_enter Try.func92, Try.ntmps92
  go_wp2
  go_ret
  exact ⟨rU, dU⟩

end Go.Proofs.Ytlaikodjcjfeiaa.PFnEach
