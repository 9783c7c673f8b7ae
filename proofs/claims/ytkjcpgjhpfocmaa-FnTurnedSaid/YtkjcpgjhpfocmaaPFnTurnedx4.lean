/- The walk of what a law reaches, for the law's row: written by a program of this session; it has no condition of its own. -/
import Derived.Test.YtkjcpgjhpfocmaaPFnTurnedx0
import Derived.Test.YtkjcpgjhpfocmaaQ
import Derived.Test.YtkjcpgjhpfocmaaPFnTurnedx3
namespace Go.Proofs.Ytkjcpgjhpfocmaa.PFnTurned
open Go.RowKit Go.Proofs.YtkjcpgjhpfocmaaW.PrintWords Go.Proofs.YtkjcpgjhpfocmaaW.PrintLast Go.Proofs.YtkjcpgjhpfocmaaW.PrintMore Go.Proofs.YtkjcpgjhpfocmaaQ
attribute [local go_sem] max2_int min2_int max_two min_two max_three min_three max_four min_four   -- for this text's walks alone
set_option linter.unusedVariables false
set_option linter.unusedSimpArgs false

/-! ### slices_IndexFunc_ArrayOk1: function 47 -/
def slices_IndexFunc_ArrayOk1.l0 : Nat → List Int → Int → Int → Option (Int)
 | 0, _, _, _ => none
 | k + 1, x0, x7, x8 => if x8 < x7 then (if 0 ≤ x8 then (if x8 < (x0.length : Int) then ((impl_ArrayOk_lit1.f (rd x0 x8)).bind fun t307 => (if t307 = true then (some x8) else (slices_IndexFunc_ArrayOk1.l0 k x0 x7 (wrap64 (x8 + 1))))) else (none)) else (none)) else (some (-1))
def slices_IndexFunc_ArrayOk1.f (k : Nat) (l0 : List Int) : Option (Int) := slices_IndexFunc_ArrayOk1.l0 k l0 (l0.length : Int) 0
set_option maxHeartbeats 8000000 in
set_option maxRecDepth 100000 in
theorem slices_IndexFunc_ArrayOk1.calls (k : Nat) (A0 : Option Addr) (c0 : Nat) (l0 : List Int) (r : Int) (w : World) (hr0 : Kd.C (Kd.int .i64) w A0 l0.length l0) (hc0 : l0.length ≤ c0) (h : slices_IndexFunc_ArrayOk1.f k l0 = some r) :
  Calls Try.prog 47 #[.slice A0 l0.length c0, .func (.func 36) #[] #[]] w fun e w' => e = .returned (.int .i64 r) ∧ Drawn0 w w' := by
 have HR0 := Aside0.mk hr0
 have HC0 := Aside0.mk hc0
 clear hr0 hc0
 have H : (slices_IndexFunc_ArrayOk1.l0 k l0 (l0.length : Int) 0) = some r := h
 clear h
 have H' := Aside0.mk H
 clear H
 go_enter Try.func47, Try.ntmps47
 go_wp2
 go_loopg [8] k (fun kq v8 w' => ∃ (x8_1 : Int), v8 = .int .i64 x8_1 ∧ Aside0 (slices_IndexFunc_ArrayOk1.l0 kq l0 (l0.length : Int) x8_1 = some r) ∧ Aside0 (kq ≤ k) ∧ Drawn0 w w')
 case atStart => exact ⟨(0), (by first | rfl | (simp; done) | (simp [*]; done)), H', ⟨Nat.le_refl _⟩, by repeat (first | exact Drawn0.refl _ | apply Drawn0.step)⟩
 case round =>
  clear H'
  obtain ⟨x8_1, rfl, HA, HK1, ⟨m1, rfl⟩⟩ := hrel
  cases gk with
  | zero => exact absurd HA.out (by simp [slices_IndexFunc_ArrayOk1.l0])
  | succ k1 =>
   have H := HA.out
   clear HA
   simp only [slices_IndexFunc_ArrayOk1.l0] at H
   by_cases c2 : x8_1 < (l0.length : Int)
   ·
    rw [if_pos c2] at H
    have c2b0 : decide (x8_1 < (l0.length : Int)) = true := decide_eq_true c2
    clear c2
    by_cases c3 : 0 ≤ x8_1
    ·
     rw [if_pos c3] at H
     have c3b0 : decide (0 ≤ x8_1) = true := decide_eq_true c3
     clear c3
     by_cases c4 : x8_1 < (l0.length : Int)
     ·
      rw [if_pos c4] at H
      have c4b0 : decide (x8_1 < (l0.length : Int)) = true := decide_eq_true c4
      clear c4
      replace H := Option.bind_eq_some_iff.mp H
      obtain ⟨t307, A50, H⟩ := H
      replace H : (if t307 = true then (some x8_1) else (slices_IndexFunc_ArrayOk1.l0 k1 l0 (l0.length : Int) (wrap64 (x8_1 + 1)))) = some r := H
      have A5 := Aside0.mk A50
      clear A50
      by_cases c6 : t307 = true
      ·
       subst c6
       have H1 : (some x8_1) = some r := by rw [if_pos rfl] at H; exact H
       clear H
       have H := H1
       clear H1
       obtain rfl := Option.some.inj H
       have p306 : 0 ≤ (x8_1 : Int) := of_decide_eq_true (by first | (with_reducible assumption) | assumption)
       have q306 : x8_1 < (l0.length : Int) := of_decide_eq_true (by first | (with_reducible assumption) | assumption)
       obtain ⟨ad306, e306, hx306_0⟩ := Kd.at_int HR0.out x8_1 p306 q306
       cases e306
       replace p306 := eq_true p306
       replace q306 := eq_true q306
       go_wp2_with (first | (go_at_call 36; (repeat rw [i64_w]); (with_reducible refine (impl_ArrayOk_lit1.calls (rd l0 x8_1) true _ A5.out).mono ?_); rintro e w' ⟨rfl, ⟨nd, rfl⟩⟩))
       go_ret
       exact ⟨rU, dU⟩
      ·
       replace c6 := Bool.eq_false_iff.mpr c6
       subst c6
       have H1 : (slices_IndexFunc_ArrayOk1.l0 k1 l0 (l0.length : Int) (wrap64 (x8_1 + 1))) = some r := by rw [if_neg (show ¬ (false = true) by decide)] at H; exact H
       clear H
       have H := H1
       clear H1
       have H' := Aside0.mk H
       clear H
       have p306 : 0 ≤ (x8_1 : Int) := of_decide_eq_true (by first | (with_reducible assumption) | assumption)
       have q306 : x8_1 < (l0.length : Int) := of_decide_eq_true (by first | (with_reducible assumption) | assumption)
       obtain ⟨ad306, e306, hx306_0⟩ := Kd.at_int HR0.out x8_1 p306 q306
       cases e306
       replace p306 := eq_true p306
       replace q306 := eq_true q306
       go_wp2_with (first | (go_at_call 36; (repeat rw [i64_w]); (with_reducible refine (impl_ArrayOk_lit1.calls (rd l0 x8_1) false _ A5.out).mono ?_); rintro e w' ⟨rfl, ⟨nd, rfl⟩⟩))
       go_roundg k1
       case measure => have := HK1.out; omega
       case rel => exact ⟨(wrap64 (x8_1 + 1)), (by first | rfl | (simp; done) | (simp [*]; done)), H', ⟨by have := HK1.out; omega⟩, by repeat (first | exact Drawn0.refl _ | apply Drawn0.step)⟩
     ·
      rw [if_neg c4] at H
      exact absurd H (by simp)
    ·
     rw [if_neg c3] at H
     exact absurd H (by simp)
   ·
    rw [if_neg c2] at H
    have c2b0 : decide (x8_1 < (l0.length : Int)) = false := decide_eq_false c2
    clear c2
    obtain rfl := Option.some.inj H
    go_wp2
    go_ret
    exact ⟨rU, dU⟩

/-! ### slices_ContainsFunc_ArrayOk1: function 35 -/
def slices_ContainsFunc_ArrayOk1.f (k : Nat) (l0 : List Int) : Option (Bool) := (slices_IndexFunc_ArrayOk1.f k l0).bind fun t308 => (some (decide (t308 ≥ 0)))
set_option maxHeartbeats 8000000 in
set_option maxRecDepth 100000 in
theorem slices_ContainsFunc_ArrayOk1.calls (k : Nat) (A0 : Option Addr) (c0 : Nat) (l0 : List Int) (r : Bool) (w : World) (hr0 : Kd.C (Kd.int .i64) w A0 l0.length l0) (hc0 : l0.length ≤ c0) (h : slices_ContainsFunc_ArrayOk1.f k l0 = some r) :
  Calls Try.prog 35 #[.slice A0 l0.length c0, .func (.func 36) #[] #[]] w fun e w' => e = .returned (.bool r) ∧ Drawn0 w w' := by
 have HR0 := Aside0.mk hr0
 have HC0 := Aside0.mk hc0
 clear hr0 hc0
 have H : ((slices_IndexFunc_ArrayOk1.f k l0).bind fun t308 => (some (decide (t308 ≥ 0)))) = some r := h
 clear h
 replace H := Option.bind_eq_some_iff.mp H
 obtain ⟨t308, A20, H⟩ := H
 replace H : (some (decide (t308 ≥ 0))) = some r := H
 have A2 := Aside0.mk A20
 clear A20
 obtain rfl := Option.some.inj H
 go_enter Try.func35, Try.ntmps35
 go_wp2_with (first | ((with_reducible refine gate_callee (f := 47) rfl ?_); refine goesL_ (some 7) rfl rfl Try.func47 (by kernel_rfl) rfl #[.slice A0 l0.length c0, .func (.func 36) #[] #[]] rfl lU ?_; (with_reducible refine (slices_IndexFunc_ArrayOk1.calls k _ _ l0 t308 _ ?side1 ?side2 A2.out).mono ?_); (case side1 => exact cU HR0.out); (case side2 => exact HC0.out); rintro e w' ⟨rfl, ⟨nd, rfl⟩⟩; refine ⟨_, rfl, ?_⟩))
 go_ret
 exact ⟨rU, dU⟩

/-! ### impl_ArrayOk: function 15 -/
def impl_ArrayOk.f (k : Nat) (l0_0 : List Int) (l0_1 : List Int) : Option (Bool) := (impl_SizeOf.f k l0_0).bind fun t310 => (if (l0_1.length : Int) = t310 then ((slices_ContainsFunc_ArrayOk1.f k l0_1).bind fun t311 => (some (!t311))) else (some false))
set_option maxHeartbeats 8000000 in
set_option maxRecDepth 100000 in
theorem impl_ArrayOk.calls (k : Nat) (A0_0 : Option Addr) (c0_0 : Nat) (l0_0 : List Int) (A0_1 : Option Addr) (c0_1 : Nat) (l0_1 : List Int) (r : Bool) (w : World) (hr0_0 : Kd.C (Kd.int .i64) w A0_0 l0_0.length l0_0) (hc0_0 : l0_0.length ≤ c0_0) (hr0_1 : Kd.C (Kd.int .i64) w A0_1 l0_1.length l0_1) (hc0_1 : l0_1.length ≤ c0_1) (h : impl_ArrayOk.f k l0_0 l0_1 = some r) :
  Calls Try.prog 15 #[.agg #[.slice A0_0 l0_0.length c0_0, .slice A0_1 l0_1.length c0_1]] w fun e w' => e = .returned (.bool r) ∧ Below w.heap.size w w' := by
 have hu26 := Try.underlying26
 have HR0_0 := Aside0.mk hr0_0
 have HC0_0 := Aside0.mk hc0_0
 clear hr0_0 hc0_0
 have HR0_1 := Aside0.mk hr0_1
 have HC0_1 := Aside0.mk hc0_1
 clear hr0_1 hc0_1
 have HB := Aside0.mk (Below.refl w.heap.size w)
 have H : ((impl_SizeOf.f k l0_0).bind fun t310 => (if (l0_1.length : Int) = t310 then ((slices_ContainsFunc_ArrayOk1.f k l0_1).bind fun t311 => (some (!t311))) else (some false))) = some r := h
 clear h
 replace H := Option.bind_eq_some_iff.mp H
 obtain ⟨t310, A20, H⟩ := H
 replace H : (if (l0_1.length : Int) = t310 then ((slices_ContainsFunc_ArrayOk1.f k l0_1).bind fun t311 => (some (!t311))) else (some false)) = some r := H
 have A2 := Aside0.mk A20
 clear A20
 by_cases c3 : (l0_1.length : Int) = t310
 ·
  rw [if_pos c3] at H
  have c3b0 : ((l0_1.length : Int) == t310) = true := beq_iff_eq.mpr c3
  have c3b1 : ((l0_1.length : Int) != t310) = false := bne_eq_false_iff_eq.mpr c3
  clear c3
  replace H := Option.bind_eq_some_iff.mp H
  obtain ⟨t311, A40, H⟩ := H
  replace H : (some (!t311)) = some r := H
  have A4 := Aside0.mk A40
  clear A40
  obtain rfl := Option.some.inj H
  go_enter Try.func15, Try.ntmps15
  go_wp2_with (first | ((with_reducible refine gate_dst (N := 1) rfl ?_); refine box_event ?hg (N := 1) ?hd (cs := #[.slice A0_0 l0_0.length c0_0, .slice A0_1 l0_1.length c0_1]) (t := 26) ?hr ?_; (case hd => rfl); (case hg => rfl); (case hr => first | (go_simp; done) | (go_simp; rfl)); intro gb309 hg w5 hbox hb; have BK309 := Aside0.mk (hbox); have GW309 := Aside0.mk ((by rw [hg]; exact (below_size (bU HB.out)) : w.heap.size ≤ gb309)); have GE309 := Aside0.mk ((by rw [hg]; exact (below_size (bU HB.out)) : w.heap.size ≤ gb309)); replace HB := Aside0.mk (below_step (bU HB.out) hb); clear hb hbox hg; have hcz6_0 : w5.cell? ⟨gb309, 0, none⟩ = some (.slice A0_0 l0_0.length c0_0) := (blk_cell BK309.out 0).trans rfl; have hcz6_1 : w5.cell? ⟨gb309, 1, none⟩ = some (.slice A0_1 l0_1.length c0_1) := (blk_cell BK309.out 1).trans rfl; have hfz6_0 := blk_frozen BK309.out 0; have hfz6_1 := blk_frozen BK309.out 1) | (go_at_call 34; (repeat rw [i64_w]); (with_reducible refine (impl_SizeOf.calls k _ _ l0_0 t310 _ ?side1 ?side2 A2.out).mono ?_); (case side1 => exact cU (Kd.C_below HR0_0.out HB.out)); (case side2 => exact HC0_0.out); rintro e w' ⟨rfl, ⟨nd, rfl⟩⟩; (try exact qU)) | (go_at_call 35; (repeat rw [i64_w]); (with_reducible refine (slices_ContainsFunc_ArrayOk1.calls k _ _ l0_1 t311 _ ?side1 ?side2 A4.out).mono ?_); (case side1 => repeat (first | exact (Kd.C_below HR0_1.out (bS1 HB.out GE309.out)) | (with_reducible refine Kd.C_alloc ?_ _) | (with_reducible refine Kd.C_drewN ?_ _) | (with_reducible refine Kd.C_drew ?_))); (case side2 => exact HC0_1.out); rintro e w' ⟨rfl, ⟨nd, rfl⟩⟩; (try exact qU)))
  repeat (go_quiet (first | (go_at_call 34; (repeat rw [i64_w]); (with_reducible refine (impl_SizeOf.calls k _ _ l0_0 t310 _ ?side1 ?side2 A2.out).mono ?_); (case side1 => exact cU (Kd.C_below HR0_0.out HB.out)); (case side2 => exact HC0_0.out); rintro e w' ⟨rfl, ⟨nd, rfl⟩⟩; (try exact qU)) | (go_at_call 35; (repeat rw [i64_w]); (with_reducible refine (slices_ContainsFunc_ArrayOk1.calls k _ _ l0_1 t311 _ ?side1 ?side2 A4.out).mono ?_); (case side1 => repeat (first | exact (Kd.C_below HR0_1.out (bS1 HB.out GE309.out)) | (with_reducible refine Kd.C_alloc ?_ _) | (with_reducible refine Kd.C_drewN ?_ _) | (with_reducible refine Kd.C_drew ?_))); (case side2 => exact HC0_1.out); rintro e w' ⟨rfl, ⟨nd, rfl⟩⟩; (try exact qU))); try go_wp2_with (first | ((with_reducible refine gate_dst (N := 1) rfl ?_); refine box_event ?hg (N := 1) ?hd (cs := #[.slice A0_0 l0_0.length c0_0, .slice A0_1 l0_1.length c0_1]) (t := 26) ?hr ?_; (case hd => rfl); (case hg => rfl); (case hr => first | (go_simp; done) | (go_simp; rfl)); intro gb309 hg w5 hbox hb; have BK309 := Aside0.mk (hbox); have GW309 := Aside0.mk ((by rw [hg]; exact (below_size (bU HB.out)) : w.heap.size ≤ gb309)); have GE309 := Aside0.mk ((by rw [hg]; exact (below_size (bU HB.out)) : w.heap.size ≤ gb309)); replace HB := Aside0.mk (below_step (bU HB.out) hb); clear hb hbox hg; have hcz6_0 : w5.cell? ⟨gb309, 0, none⟩ = some (.slice A0_0 l0_0.length c0_0) := (blk_cell BK309.out 0).trans rfl; have hcz6_1 : w5.cell? ⟨gb309, 1, none⟩ = some (.slice A0_1 l0_1.length c0_1) := (blk_cell BK309.out 1).trans rfl; have hfz6_0 := blk_frozen BK309.out 0; have hfz6_1 := blk_frozen BK309.out 1) | (go_at_call 34; (repeat rw [i64_w]); (with_reducible refine (impl_SizeOf.calls k _ _ l0_0 t310 _ ?side1 ?side2 A2.out).mono ?_); (case side1 => exact cU (Kd.C_below HR0_0.out HB.out)); (case side2 => exact HC0_0.out); rintro e w' ⟨rfl, ⟨nd, rfl⟩⟩; (try exact qU)) | (go_at_call 35; (repeat rw [i64_w]); (with_reducible refine (slices_ContainsFunc_ArrayOk1.calls k _ _ l0_1 t311 _ ?side1 ?side2 A4.out).mono ?_); (case side1 => repeat (first | exact (Kd.C_below HR0_1.out (bS1 HB.out GE309.out)) | (with_reducible refine Kd.C_alloc ?_ _) | (with_reducible refine Kd.C_drewN ?_ _) | (with_reducible refine Kd.C_drew ?_))); (case side2 => exact HC0_1.out); rintro e w' ⟨rfl, ⟨nd, rfl⟩⟩; (try exact qU))))
  go_ret
  exact ⟨by first | rfl | (simp [errW_none, errW_some] <;> rfl) | (simp [*, errW_none, errW_some] <;> rfl), by exact bS1 HB.out GE309.out⟩
 ·
  rw [if_neg c3] at H
  have c3b0 : ((l0_1.length : Int) == t310) = false := beq_eq_false_iff_ne.mpr c3
  have c3b1 : ((l0_1.length : Int) != t310) = true := bne_iff_ne.mpr c3
  obtain rfl := Option.some.inj H
  go_enter Try.func15, Try.ntmps15
  go_wp2_with (first | ((with_reducible refine gate_dst (N := 1) rfl ?_); refine box_event ?hg (N := 1) ?hd (cs := #[.slice A0_0 l0_0.length c0_0, .slice A0_1 l0_1.length c0_1]) (t := 26) ?hr ?_; (case hd => rfl); (case hg => rfl); (case hr => first | (go_simp; done) | (go_simp; rfl)); intro gb309 hg w7 hbox hb; have BK309 := Aside0.mk (hbox); have GW309 := Aside0.mk ((by rw [hg]; exact (below_size (bU HB.out)) : w.heap.size ≤ gb309)); have GE309 := Aside0.mk ((by rw [hg]; exact (below_size (bU HB.out)) : w.heap.size ≤ gb309)); replace HB := Aside0.mk (below_step (bU HB.out) hb); clear hb hbox hg; have hcz8_0 : w7.cell? ⟨gb309, 0, none⟩ = some (.slice A0_0 l0_0.length c0_0) := (blk_cell BK309.out 0).trans rfl; have hcz8_1 : w7.cell? ⟨gb309, 1, none⟩ = some (.slice A0_1 l0_1.length c0_1) := (blk_cell BK309.out 1).trans rfl; have hfz8_0 := blk_frozen BK309.out 0; have hfz8_1 := blk_frozen BK309.out 1) | (go_at_call 34; (repeat rw [i64_w]); (with_reducible refine (impl_SizeOf.calls k _ _ l0_0 t310 _ ?side1 ?side2 A2.out).mono ?_); (case side1 => exact cU (Kd.C_below HR0_0.out HB.out)); (case side2 => exact HC0_0.out); rintro e w' ⟨rfl, ⟨nd, rfl⟩⟩; (try exact qU)))
  repeat (go_quiet ((go_at_call 34; (repeat rw [i64_w]); (with_reducible refine (impl_SizeOf.calls k _ _ l0_0 t310 _ ?side1 ?side2 A2.out).mono ?_); (case side1 => exact cU (Kd.C_below HR0_0.out HB.out)); (case side2 => exact HC0_0.out); rintro e w' ⟨rfl, ⟨nd, rfl⟩⟩; (try exact qU))); try go_wp2_with (first | ((with_reducible refine gate_dst (N := 1) rfl ?_); refine box_event ?hg (N := 1) ?hd (cs := #[.slice A0_0 l0_0.length c0_0, .slice A0_1 l0_1.length c0_1]) (t := 26) ?hr ?_; (case hd => rfl); (case hg => rfl); (case hr => first | (go_simp; done) | (go_simp; rfl)); intro gb309 hg w7 hbox hb; have BK309 := Aside0.mk (hbox); have GW309 := Aside0.mk ((by rw [hg]; exact (below_size (bU HB.out)) : w.heap.size ≤ gb309)); have GE309 := Aside0.mk ((by rw [hg]; exact (below_size (bU HB.out)) : w.heap.size ≤ gb309)); replace HB := Aside0.mk (below_step (bU HB.out) hb); clear hb hbox hg; have hcz8_0 : w7.cell? ⟨gb309, 0, none⟩ = some (.slice A0_0 l0_0.length c0_0) := (blk_cell BK309.out 0).trans rfl; have hcz8_1 : w7.cell? ⟨gb309, 1, none⟩ = some (.slice A0_1 l0_1.length c0_1) := (blk_cell BK309.out 1).trans rfl; have hfz8_0 := blk_frozen BK309.out 0; have hfz8_1 := blk_frozen BK309.out 1) | (go_at_call 34; (repeat rw [i64_w]); (with_reducible refine (impl_SizeOf.calls k _ _ l0_0 t310 _ ?side1 ?side2 A2.out).mono ?_); (case side1 => exact cU (Kd.C_below HR0_0.out HB.out)); (case side2 => exact HC0_0.out); rintro e w' ⟨rfl, ⟨nd, rfl⟩⟩; (try exact qU))))
  go_ret
  exact ⟨by first | rfl | (simp [errW_none, errW_some] <;> rfl) | (simp [*, errW_none, errW_some] <;> rfl), by exact bS1 HB.out GE309.out⟩

/-! ### impl_copyArray: function 16 -/
def impl_copyArray.f (l0_0 : List Int) (l0_1 : List Int) : Option (List Int × List Int) := if ([] : List Int).length + l0_0.length < 17592186044416 then (if ([] : List Int).length + l0_1.length < 17592186044416 then (some ((([] : List Int) ++ l0_0), (([] : List Int) ++ l0_1))) else (none)) else (none)
def impl_copyArray.T1 : Bool × List (List Nat × List Nat) := (true, [([], []), ([0], [0]), ([1], [1]), ([], []), ([3], [3]), ([4, 2], [4]), ([2, 5], [2, 5]), ([6, 5, 0, 1, 2, 3, 4, 5, 6], [6])])
def impl_copyArray.B1 : List Nat := [0, 1, 3, 0, 8, 31, 63, 127]
theorem impl_copyArray.tab1 : rtab .any (opsOf Try.f16 1) = impl_copyArray.T1 := by kernel_rfl
theorem impl_copyArray.bits1 : waitsOk impl_copyArray.T1.2 impl_copyArray.B1 = true := by kernel_rfl
set_option maxHeartbeats 8000000 in
set_option maxRecDepth 100000 in
theorem impl_copyArray.calls (A0_0 : Option Addr) (c0_0 : Nat) (l0_0 : List Int) (A0_1 : Option Addr) (c0_1 : Nat) (l0_1 : List Int) (r1 : List Int) (r2 : List Int) (w : World) (hr0_0 : Kd.C (Kd.int .i64) w A0_0 l0_0.length l0_0) (hc0_0 : l0_0.length ≤ c0_0) (hr0_1 : Kd.C (Kd.int .i64) w A0_1 l0_1.length l0_1) (hc0_1 : l0_1.length ≤ c0_1) (h : impl_copyArray.f l0_0 l0_1 = some (r1, r2)) :
  Calls Try.prog 16 #[.agg #[.slice A0_0 l0_0.length c0_0, .slice A0_1 l0_1.length c0_1]] w fun e w' => ∃ v0_ v1_ : Value, e = .returned (.agg #[v0_, v1_]) ∧ Kd.R (Kd.int .i64) 3 w' w.heap.size (fun k_ => some k_ ≠ (v1_ : Value).ownBlock) v0_ r1 ∧ Kd.R (Kd.int .i64) 3 w' w.heap.size (fun k_ => some k_ ≠ (v0_ : Value).ownBlock) v1_ r2 ∧ Below w.heap.size w w' := by
 have hu26 := Try.underlying26
 have HR0_0 := Aside0.mk hr0_0
 have HC0_0 := Aside0.mk hc0_0
 clear hr0_0 hc0_0
 have HR0_1 := Aside0.mk hr0_1
 have HC0_1 := Aside0.mk hc0_1
 clear hr0_1 hc0_1
 have HB := Aside0.mk (Below.refl w.heap.size w)
 have H : (if ([] : List Int).length + l0_0.length < 17592186044416 then (if ([] : List Int).length + l0_1.length < 17592186044416 then (some ((([] : List Int) ++ l0_0), (([] : List Int) ++ l0_1))) else (none)) else (none)) = some (r1, r2) := h
 clear h
 by_cases c2 : ([] : List Int).length + l0_0.length < 17592186044416
 ·
  rw [if_pos c2] at H
  have LMc2 := Aside0.mk c2
  clear c2
  obtain ⟨y314, hy314⟩ : ∃ y_ : List Int, y_ = (([] : List Int) ++ l0_0) := ⟨_, rfl⟩
  replace H : (if ([] : List Int).length + l0_1.length < 17592186044416 then (some (y314, (([] : List Int) ++ l0_1))) else (none)) = some (r1, r2) := by first | (rw [hy314]; with_reducible exact H) | (have H2_ := (Option.bind_some _ _).symm.trans H; rw [hy314]; with_reducible exact H2_) | (have H2_ := (Option.bind_some _ _).symm.trans H; with_reducible exact H2_) | with_reducible exact H | (rw [hy314]; exact H) | exact H
  have Ny314 := Aside0.mk hy314
  clear hy314
  by_cases c3 : ([] : List Int).length + l0_1.length < 17592186044416
  ·
   rw [if_pos c3] at H
   have LMc3 := Aside0.mk c3
   clear c3
   obtain ⟨y317, hy317⟩ : ∃ y_ : List Int, y_ = (([] : List Int) ++ l0_1) := ⟨_, rfl⟩
   replace H : (some (y314, y317)) = some (r1, r2) := by first | (rw [hy317]; with_reducible exact H) | (have H2_ := (Option.bind_some _ _).symm.trans H; rw [hy317]; with_reducible exact H2_) | (have H2_ := (Option.bind_some _ _).symm.trans H; with_reducible exact H2_) | with_reducible exact H | (rw [hy317]; exact H) | exact H
   have Ny317 := Aside0.mk hy317
   clear hy317
   simp only [Option.some.injEq, Prod.mk.injEq] at H
   obtain ⟨rfl, rfl⟩ := H
   go_enter Try.func16, Try.ntmps16
   try go_wp2_with (first | ((with_reducible refine gate_dst (N := 1) rfl ?_); refine box_event ?hg (N := 1) ?hd (cs := #[.slice A0_0 l0_0.length c0_0, .slice A0_1 l0_1.length c0_1]) (t := 26) ?hr ?_; (case hd => rfl); (case hg => rfl); (case hr => first | (go_simp; done) | (go_simp; rfl)); intro gb312 hg w4 hbox hb; have BK312 := Aside0.mk (hbox); have GW312 := Aside0.mk ((by rw [hg]; exact (below_size (bU HB.out)) : w.heap.size ≤ gb312)); have GE312 := Aside0.mk ((by rw [hg]; exact (below_size (bU HB.out)) : w.heap.size ≤ gb312)); replace HB := Aside0.mk (below_step (bU HB.out) hb); clear hb hbox hg) | ((with_reducible refine gate_dst (N := 2) rfl ?_); refine box_event ?hg (N := 2) ?hd (cs := #[.slice none 0 0, .slice none 0 0]) (t := 26) ?hr ?_; (case hd => rfl); (case hg => rfl); (case hr => first | (go_simp; done) | (go_simp; rfl)); intro gb313 hg w5 hbox hb; have BK313 := Aside0.mk (hbox); have GW313 := Aside0.mk ((by rw [hg]; exact (below_size (bS1 HB.out GE312.out)) : w.heap.size ≤ gb313)); have GE313 := Aside0.mk ((by rw [hg]; exact (below_size (bS1 HB.out GE312.out)) : w.heap.size ≤ gb313)); replace HB := Aside0.mk (below_step (bS1 HB.out GE312.out) hb); have NB312_313 := Aside0.mk (kN BK312.out hg); have NB313_312 := Aside0.mk (kM BK312.out hg); replace BK312 := Aside0.mk (kB BK312.out hb); clear hb hbox hg))
   replace BK312 := Aside0.mk (blk_drew BK312.out)
   replace BK313 := Aside0.mk (blk_drew BK313.out)
   replace HB := Aside0.mk (below_drew1 HB.out)
   refine start_ (n := 8) (S := fun w' => w'.cell? ⟨gb312, 0, none⟩ = some (.slice A0_0 l0_0.length c0_0) ∧ w'.cell? ⟨gb312, 1, none⟩ = some (.slice A0_1 l0_1.length c0_1)) (ds := []) #[false, false, false, false, false, false, false, false] (by kernel_rfl) rfl rfl ⟨(blk_cell BK312.out 0).trans rfl, (blk_cell BK312.out 1).trans rfl⟩ (fun hHeld => ?_); refine with_tabW impl_copyArray.tab1 impl_copyArray.bits1 (fun HT_ HW_ => ?_)
   generalize w5.drew = w6 at BK312 BK313 HB hHeld ⊢
   refine pure_ (i := 0) (N := some 3) (v := ?_) (a' := ?_) #[true, false, false, false, false, false, false, false] rfl rfl (any_of HT_.out (by kernel_rfl)) (fun _ _ _ h => h) (Or.inl ⟨by rfl, ?_⟩) ?_ ?_
   rotate_left
   ·
    intro w'
    go_simp
    with_reducible rfl
   rotate_left
   ·
    simp only [Act.put, List.setIfInBounds_toArray, List.set_cons_zero, List.set_cons_succ, i64_w, i32_w]
    rfl
   refine pure_ (i := 3) (N := some 6) (v := ?_) (a' := ?_) #[true, false, false, true, false, false, false, false] rfl rfl (any_of HT_.out (by kernel_rfl)) (fun _ _ _ h => h) (Or.inl ⟨by rfl, ?_⟩) ?_ ?_
   rotate_left
   ·
    intro w'
    go_simp
    with_reducible rfl
   rotate_left
   ·
    simp only [Act.put, List.setIfInBounds_toArray, List.set_cons_zero, List.set_cons_succ, i64_w, i32_w]
    rfl
   refine take_ (i := 1) (N := some 4) (v := ?_) (a' := ?_) #[true, true, false, true, false, false, false, false] rfl rfl (take_ofW HT_.out HW_.out (by kernel_rfl)) (fun _ _ _ h => h) (Or.inl ⟨by rfl, ?_⟩) hHeld ?_ ?_
   rotate_left
   ·
    rintro w' ⟨s0, s1⟩
    go_simp
    with_reducible rfl
   rotate_left
   ·
    simp only [Act.put, List.setIfInBounds_toArray, List.set_cons_zero, List.set_cons_succ, i64_w, i32_w]
    rfl
   refine take_ (i := 4) (N := some 7) (v := ?_) (a' := ?_) #[true, true, false, true, true, false, false, false] rfl rfl (take_ofW HT_.out HW_.out (by kernel_rfl)) (fun _ _ _ h => h) (Or.inl ⟨by rfl, ?_⟩) hHeld ?_ ?_
   rotate_left
   ·
    rintro w' ⟨s0, s1⟩
    go_simp
    with_reducible rfl
   rotate_left
   ·
    simp only [Act.put, List.setIfInBounds_toArray, List.set_cons_zero, List.set_cons_succ, i64_w, i32_w]
    rfl
   refine one_ (i := 2) (N := some 5) #[true, true, true, true, true, false, false, false] rfl rfl (one_of HT_.out (by kernel_rfl)) (by decide) (fun K hK => ?_)
   refine Kd.R_append_rows_step (Kd.int .i64) (w0 := w) w.heap.size (by rfl) (.const (.slice none 0 0)) (.tmp 4) 24 3 (.int .i64 0) 8 rfl Try.underlying24 info3 rfl (by decide) (by omega) (.slice none 0 0) ([] : List Int) l0_0 _ _ _ (fun _ => True) (fun _ => False) rfl rfl ?aO ?aR (fun _ _ h => h) (fun _ h => h.elim) ?aF ?aB ?aS ?aL ?_
   (case aR => exact cU (Kd.C_below HR0_0.out HB.out))
   (case aB => exact (bS2 HB.out GE312.out GE313.out))
   (case aF => exact (fun _ _ => trivial))
   (case aO => exact ((Kd.R_nil _ _ _ _ (fun _ => True))))
   (case aS => exact (below_size (bS2 HB.out GE312.out GE313.out)))
   (case aL => have := LMc2.out; omega)
   intro v315 w7 ho hb hg hat
   rw [← Ny314.out] at ho
   replace BK312 := Aside0.mk (blk_grown (g := gb312) (o := .cells #[.slice A0_0 l0_0.length c0_0, .slice A0_1 l0_1.length c0_1] 26 (0, 0)) (kU BK312.out) hg (by simp [Value.ownBlock]))
   replace BK313 := Aside0.mk (blk_grown (g := gb313) (o := .cells #[.slice none 0 0, .slice none 0 0] 26 (0, 0)) (kU BK313.out) hg (by simp [Value.ownBlock]))
   replace HB := Aside0.mk (hb)
   have HO316 := Aside0.mk (ho)
   clear ho hb hg hat
   refine hK.out _ _ ⟨(blk_cell BK312.out 0).trans rfl, (blk_cell BK312.out 1).trans rfl⟩ (fun hHeld => ?_)
   clear hK K
   refine norm_ (a' := ?_) ?_ ?_
   rotate_left
   ·
    show Act.put _ (some 5) _ = _
    simp only [Act.put, List.setIfInBounds_toArray, List.set_cons_zero, List.set_cons_succ, i64_w, i32_w]
    rfl
   refine one_ (i := 5) (N := some 8) #[true, true, true, true, true, true, false, false] rfl rfl (one_of HT_.out (by kernel_rfl)) (by decide) (fun K hK => ?_)
   refine Kd.R_append_rows_step (Kd.int .i64) (w0 := w) w.heap.size (by rfl) (.const (.slice none 0 0)) (.tmp 7) 24 3 (.int .i64 0) 8 rfl Try.underlying24 info3 rfl (by decide) (by omega) (.slice none 0 0) ([] : List Int) l0_1 _ _ _ (fun k_ => some k_ ≠ (v315 : Value).ownBlock) (fun _ => False) rfl rfl ?aO ?aR (fun _ _ h => h) (fun _ h => h.elim) ?aF ?aB ?aS ?aL ?_
   (case aR => exact cU (Kd.C_below HR0_1.out HB.out))
   (case aB => exact (bS2 HB.out GE312.out GE313.out))
   (case aF => exact (fun k_ hk => Kd.fresh' (Kd.R_lt (RU HO316.out)) k_ hk))
   (case aO => exact ((Kd.R_nil _ _ _ _ (fun k_ => some k_ ≠ (v315 : Value).ownBlock))))
   (case aS => exact (below_size (bS2 HB.out GE312.out GE313.out)))
   (case aL => have := LMc3.out; omega)
   intro v318 w8 ho hb hg hat
   rw [← Ny317.out] at ho
   replace BK312 := Aside0.mk (blk_grown (g := gb312) (o := .cells #[.slice A0_0 l0_0.length c0_0, .slice A0_1 l0_1.length c0_1] 26 (0, 0)) (kU BK312.out) hg (by simp [Value.ownBlock]))
   replace BK313 := Aside0.mk (blk_grown (g := gb313) (o := .cells #[.slice none 0 0, .slice none 0 0] 26 (0, 0)) (kU BK313.out) hg (by simp [Value.ownBlock]))
   replace HO316 := Aside0.mk (Kd.R_after (Kd.R_apart_nil (RU HO316.out)) hg hat)
   replace HB := Aside0.mk (hb)
   have HO319 := Aside0.mk (ho)
   clear ho hb hg hat
   obtain ⟨Ao9, co9, eo9⟩ := Kd.R_slice HO319.out
   (first | subst eo9 | (injection eo9 with f1_ f2_ f3_; have f4_ := f1_.symm; have f5_ := f3_.symm; clear f1_ f2_ f3_; subst f4_; subst f5_))
   obtain ⟨Ao10, co10, eo10⟩ := Kd.R_slice HO316.out
   (first | subst eo10 | (injection eo10 with f1_ f2_ f3_; have f4_ := f1_.symm; have f5_ := f3_.symm; clear f1_ f2_ f3_; subst f4_; subst f5_))
   refine hK.out _ _ ⟨(blk_cell BK312.out 0).trans rfl, (blk_cell BK312.out 1).trans rfl⟩ (fun hHeld => ?_)
   clear hK K
   refine norm_ (a' := ?_) ?_ ?_
   rotate_left
   ·
    show Act.put _ (some 8) _ = _
    simp only [Act.put, List.setIfInBounds_toArray, List.set_cons_zero, List.set_cons_succ, i64_w, i32_w]
    rfl
   refine pure_ (i := 6) (N := some 9) (v := ?_) (a' := ?_) #[true, true, true, true, true, true, true, false] rfl rfl (any_of HT_.out (by kernel_rfl)) (fun _ _ _ h => h) (Or.inl ⟨by rfl, ?_⟩) ?_ ?_
   rotate_left
   ·
    intro w'
    go_simp
    with_reducible rfl
   rotate_left
   ·
    simp only [Act.put, List.setIfInBounds_toArray, List.set_cons_zero, List.set_cons_succ, i64_w, i32_w]
    rfl
   refine one_ (i := 7) (N := none) #[true, true, true, true, true, true, true, true] rfl rfl (one_of HT_.out (by kernel_rfl)) (by decide) (fun K hK => ?_)
   have hs11 : w8.cell? ⟨gb313, 0, none⟩ = some (.slice none 0 0) := (blk_cell BK313.out 0).trans rfl
   have hfs11 := blk_frozen BK313.out 0
   have hns11_0 := NB312_313.out
   have hms11_0 := NB313_312.out
   have hs12 : w8.cell? ⟨gb313, 1, none⟩ = some (.slice none 0 0) := (blk_cell BK313.out 1).trans rfl
   have hfs12 := blk_frozen BK313.out 1
   have hns12_0 := NB312_313.out
   have hms12_0 := NB313_312.out
   refine skip_ (w1 := ?_) (by rfl) rfl ?_ ?_
   rotate_left
   ·
    go_simp
    rfl
   refine hK.out _ _ ⟨((cell_far (p := ⟨gb313, _, none⟩) NB312_313.out _).trans (((cell_far (p := ⟨gb313, _, none⟩) NB312_313.out _).trans (hHeld.1)))), ((cell_far (p := ⟨gb313, _, none⟩) NB312_313.out _).trans (((cell_far (p := ⟨gb313, _, none⟩) NB312_313.out _).trans (hHeld.2))))⟩ (fun hHeld => ?_)
   clear hK K
   refine done_ (done_of HT_.out (by kernel_rfl)) ?_
   try go_wp2
   refine bodyPost_ret (results_cell_row rfl _ _ gb313 26 #[.slice Ao10 y314.length co10, .slice Ao9 y317.length co9] (0, 0) _ rfl (by refine kU ?_; refine blk_put (cs := #[.slice Ao10 y314.length co10, .slice none 0 0]) ?_ 1 _ rfl; refine kU ?_; refine blk_put (cs := #[.slice none 0 0, .slice none 0 0]) ?_ 0 _ rfl; refine kU ?_; exact BK313.out) Try.underlying26 rfl (by kernel_rfl)) rfl ?_
   exact ⟨_, _, by first | rfl | (simp [errW_none, errW_some] <;> rfl) | (simp [*, errW_none, errW_some] <;> rfl), by refine RU ?_; exact Kd.R_mono (Kd.R_far (p := ⟨gb313, 1, none⟩) (Kd.R_far (p := ⟨gb313, 0, none⟩) (Kd.R_types HO316.out BK313.out (by decide)) (fun _ hk => hk.2) (.slice Ao10 y314.length co10)) (fun _ hk => hk.2) (.slice Ao9 y317.length co9)) (fun _ hk => hk.1.2), by refine RU ?_; exact Kd.R_mono (Kd.R_far (p := ⟨gb313, 1, none⟩) (Kd.R_far (p := ⟨gb313, 0, none⟩) (Kd.R_types HO319.out BK313.out (by decide)) (fun _ hk => hk.2) (.slice Ao10 y314.length co10)) (fun _ hk => hk.2) (.slice Ao9 y317.length co9)) (fun _ hk => hk.1), by exact bS2 HB.out GE312.out GE313.out⟩
  ·
   rw [if_neg c3] at H
   exact absurd H (by simp)
 ·
  rw [if_neg c2] at H
  exact absurd H (by simp)

end Go.Proofs.Ytkjcpgjhpfocmaa.PFnTurned
