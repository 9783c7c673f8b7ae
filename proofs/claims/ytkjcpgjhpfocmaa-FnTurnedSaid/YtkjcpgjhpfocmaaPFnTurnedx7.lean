/- The walk of what a law reaches, for the law's row: written by a program of this session; it has no condition of its own. -/
import Derived.Test.YtkjcpgjhpfocmaaPFnTurnedx0
import Derived.Test.YtkjcpgjhpfocmaaQ
import Derived.Test.YtkjcpgjhpfocmaaPFnTurnedx1
import Derived.Test.YtkjcpgjhpfocmaaPFnTurnedx4
import Derived.Test.YtkjcpgjhpfocmaaPFnTurnedx6
namespace Go.Proofs.Ytkjcpgjhpfocmaa.PFnTurned
open Go.RowKit Go.Proofs.YtkjcpgjhpfocmaaW.PrintWords Go.Proofs.YtkjcpgjhpfocmaaW.PrintLast Go.Proofs.YtkjcpgjhpfocmaaW.PrintMore Go.Proofs.YtkjcpgjhpfocmaaQ
attribute [local go_sem] max2_int min2_int max_two min_two max_three min_three max_four min_four   -- for this text's walks alone
set_option linter.unusedVariables false
set_option linter.unusedSimpArgs false

/-! ### impl_Flip: function 7 -/
def impl_Flip.l0 : Nat → List Int → Int → Int → List Int → List Int → List Int → List Int → Option (List Int × List Int × Int)
 | 0, _, _, _, _, _, _, _ => none
 | k + 1, x18, x19, x20, x391000, x391001, x400000, x400001 => if x20 < x19 then (if 0 ≤ x20 then (if x20 < (x18.length : Int) then ((impl_IndexOf.f k x391000 x20).bind fun t402 => ((slices_Reverse_int_int.f k t402).bind fun t405 => ((impl_PlaceOf.f k x400000 t405).bind fun t406 => (if 0 ≤ t406 then (if t406 < (x400001.length : Int) then (impl_Flip.l0 k x18 x19 (wrap64 (x20 + 1)) x391000 x391001 x400000 (x400001.set (t406 : Int).toNat (rd x18 x20))) else (none)) else (none))))) else (none)) else (none)) else (some (x400000, x400001, 0))
def impl_Flip.f (k : Nat) (l0_0 : List Int) (l0_1 : List Int) : Option (List Int × List Int × Int) := (impl_ArrayOk.f k l0_0 l0_1).bind fun t392 => (if t392 = true then ((impl_copyArray.f l0_0 l0_1).bind fun bt393 => ((slices_Reverse_int_int.f k bt393.1).bind fun t400 => (impl_Flip.l0 k l0_1 (l0_1.length : Int) 0 l0_0 l0_1 t400 bt393.2))) else (some (([] : List Int), ([] : List Int), 1)))
def impl_Flip.T10 : Bool × List (List Nat × List Nat) := (true, [([], []), ([0], [0]), ([], []), ([2], [2]), ([], []), ([3, 4], [3, 4]), ([], []), ([1, 5, 0, 1, 2, 3, 4, 5, 6], [1, 5]), ([7, 6, 5, 0, 1, 2, 3, 4, 5, 6], [6, 7])])
def impl_Flip.B10 : List Nat := [0, 1, 0, 4, 0, 28, 0, 127, 255]
theorem impl_Flip.tab10 : rtab .any (opsOf Try.f7 10) = impl_Flip.T10 := by kernel_rfl
theorem impl_Flip.bits10 : waitsOk impl_Flip.T10.2 impl_Flip.B10 = true := by kernel_rfl
set_option maxHeartbeats 8000000 in
set_option maxRecDepth 100000 in
theorem impl_Flip.calls (k : Nat) (A0_0 : Option Addr) (c0_0 : Nat) (l0_0 : List Int) (A0_1 : Option Addr) (c0_1 : Nat) (l0_1 : List Int) (r1 : List Int) (r2 : List Int) (r3 : Int) (w : World) (hr0_0 : Kd.C (Kd.int .i64) w A0_0 l0_0.length l0_0) (hc0_0 : l0_0.length ≤ c0_0) (hr0_1 : Kd.C (Kd.int .i64) w A0_1 l0_1.length l0_1) (hc0_1 : l0_1.length ≤ c0_1) (h : impl_Flip.f k l0_0 l0_1 = some (r1, r2, r3)) :
  Calls Try.prog 7 #[.agg #[.slice A0_0 l0_0.length c0_0, .slice A0_1 l0_1.length c0_1]] w fun e w' => ∃ v0_ v1_ : Value, e = .returned (.tuple #[.agg #[v0_, v1_], .int .i64 r3]) ∧ Kd.R (Kd.int .i64) 3 w' w.heap.size (fun k_ => some k_ ≠ (v1_ : Value).ownBlock) v0_ r1 ∧ Kd.R (Kd.int .i64) 3 w' w.heap.size (fun k_ => some k_ ≠ (v0_ : Value).ownBlock) v1_ r2 ∧ Below w.heap.size w w' := by
 have hu26 := Try.underlying26
 have HR0_0 := Aside0.mk hr0_0
 have HC0_0 := Aside0.mk hc0_0
 clear hr0_0 hc0_0
 have HR0_1 := Aside0.mk hr0_1
 have HC0_1 := Aside0.mk hc0_1
 clear hr0_1 hc0_1
 have HB := Aside0.mk (Below.refl w.heap.size w)
 have H : ((impl_ArrayOk.f k l0_0 l0_1).bind fun t392 => (if t392 = true then ((impl_copyArray.f l0_0 l0_1).bind fun bt393 => ((slices_Reverse_int_int.f k bt393.1).bind fun t400 => (impl_Flip.l0 k l0_1 (l0_1.length : Int) 0 l0_0 l0_1 t400 bt393.2))) else (some (([] : List Int), ([] : List Int), 1)))) = some (r1, r2, r3) := h
 clear h
 replace H := Option.bind_eq_some_iff.mp H
 obtain ⟨t392, A20, H⟩ := H
 replace H : (if t392 = true then ((impl_copyArray.f l0_0 l0_1).bind fun bt393 => ((slices_Reverse_int_int.f k bt393.1).bind fun t400 => (impl_Flip.l0 k l0_1 (l0_1.length : Int) 0 l0_0 l0_1 t400 bt393.2))) else (some (([] : List Int), ([] : List Int), 1))) = some (r1, r2, r3) := H
 have A2 := Aside0.mk A20
 clear A20
 by_cases c3 : t392 = true
 ·
  subst c3
  have H1 : ((impl_copyArray.f l0_0 l0_1).bind fun bt393 => ((slices_Reverse_int_int.f k bt393.1).bind fun t400 => (impl_Flip.l0 k l0_1 (l0_1.length : Int) 0 l0_0 l0_1 t400 bt393.2))) = some (r1, r2, r3) := by rw [if_pos rfl] at H; exact H
  clear H
  have H := H1
  clear H1
  replace H := Option.bind_eq_some_iff.mp H
  obtain ⟨⟨t393, t396⟩, A40, H⟩ := H
  replace H : ((slices_Reverse_int_int.f k t393).bind fun t400 => (impl_Flip.l0 k l0_1 (l0_1.length : Int) 0 l0_0 l0_1 t400 t396)) = some (r1, r2, r3) := H
  have A4 := Aside0.mk A40
  clear A40
  replace H := Option.bind_eq_some_iff.mp H
  obtain ⟨t400, A50, H⟩ := H
  replace H : (impl_Flip.l0 k l0_1 (l0_1.length : Int) 0 l0_0 l0_1 t400 t396) = some (r1, r2, r3) := H
  have A5 := Aside0.mk A50
  clear A50
  have H' := Aside0.mk H
  clear H
  go_enter Try.func7, Try.ntmps7
  go_wp2_with (first | ((with_reducible refine gate_dst (N := 1) rfl ?_); refine box_event ?hg (N := 1) ?hd (cs := #[.slice A0_0 l0_0.length c0_0, .slice A0_1 l0_1.length c0_1]) (t := 26) ?hr ?_; (case hd => rfl); (case hg => rfl); (case hr => first | (go_simp; done) | (go_simp; rfl)); intro gb390 hg w6 hbox hb; have BK390 := Aside0.mk (hbox); have GW390 := Aside0.mk ((by rw [hg]; exact (below_size (bU HB.out)) : w.heap.size ≤ gb390)); have GE390 := Aside0.mk ((by rw [hg]; exact (below_size (bU HB.out)) : w.heap.size ≤ gb390)); replace HB := Aside0.mk (below_step (bU HB.out) hb); clear hb hbox hg) | ((with_reducible refine gate_dst (N := 2) rfl ?_); refine box_event ?hg (N := 2) ?hd (cs := #[.slice none 0 0, .slice none 0 0]) (t := 26) ?hr ?_; (case hd => rfl); (case hg => rfl); (case hr => first | (go_simp; done) | (go_simp; rfl)); intro gb391 hg w7 hbox hb; have BK391 := Aside0.mk (hbox); have GW391 := Aside0.mk ((by rw [hg]; exact (below_size (bS1 HB.out GE390.out)) : w.heap.size ≤ gb391)); have GE391 := Aside0.mk ((by rw [hg]; exact (below_size (bS1 HB.out GE390.out)) : w.heap.size ≤ gb391)); replace HB := Aside0.mk (below_step (bS1 HB.out GE390.out) hb); have NB390_391 := Aside0.mk (kN BK390.out hg); have NB391_390 := Aside0.mk (kM BK390.out hg); replace BK390 := Aside0.mk (kB BK390.out hb); clear hb hbox hg; have hnb8 := NB390_391.out; have hnc8 := NB391_390.out; have hcz9_0 : w7.cell? ⟨gb390, 0, none⟩ = some (.slice A0_0 l0_0.length c0_0) := (blk_cell BK390.out 0).trans rfl; have hcz9_1 : w7.cell? ⟨gb390, 1, none⟩ = some (.slice A0_1 l0_1.length c0_1) := (blk_cell BK390.out 1).trans rfl; have hfz9_0 := blk_frozen BK390.out 0; have hfz9_1 := blk_frozen BK390.out 1) | ((with_reducible refine gate_callee (f := 15) rfl ?_); refine goesL_ (some 9) rfl rfl Try.func15 (by kernel_rfl) rfl #[.agg #[.slice A0_0 l0_0.length c0_0, .slice A0_1 l0_1.length c0_1]] rfl lU ?_; (with_reducible refine (impl_ArrayOk.calls k _ _ l0_0 _ _ l0_1 true _ ?side1 ?side2 ?side3 ?side4 A2.out).mono ?_); (case side1 => exact cU (Kd.C_below HR0_0.out HB.out)); (case side2 => exact HC0_0.out); (case side3 => exact cU (Kd.C_below HR0_1.out HB.out)); (case side4 => exact HC0_1.out); rintro e w10 ⟨rfl, hb⟩; refine ⟨_, rfl, ?_⟩; replace BK390 := Aside0.mk (kB BK390.out hb); replace BK391 := Aside0.mk (kB BK391.out hb); replace HB := Aside0.mk (below_step (bS2 HB.out GE390.out GE391.out) hb); (try clear hb); (try clear hb2); (try clear hk); (try clear hi); have hcz11_0 : w10.cell? ⟨gb390, 0, none⟩ = some (.slice A0_0 l0_0.length c0_0) := (blk_cell BK390.out 0).trans rfl; have hcz11_1 : w10.cell? ⟨gb390, 1, none⟩ = some (.slice A0_1 l0_1.length c0_1) := (blk_cell BK390.out 1).trans rfl; have hfz11_0 := blk_frozen BK390.out 0; have hfz11_1 := blk_frozen BK390.out 1) | ((with_reducible refine gate_callee (f := 16) rfl ?_); refine goesL_ (some 13) rfl rfl Try.func16 (by kernel_rfl) rfl #[.agg #[.slice A0_0 l0_0.length c0_0, .slice A0_1 l0_1.length c0_1]] rfl lU ?_; (with_reducible refine (impl_copyArray.calls _ _ l0_0 _ _ l0_1 t393 t396 _ ?side1 ?side2 ?side3 ?side4 A4.out).mono ?_); (case side1 => exact cU (Kd.C_below HR0_0.out HB.out)); (case side2 => exact HC0_0.out); (case side3 => exact cU (Kd.C_below HR0_1.out HB.out)); (case side4 => exact HC0_1.out); rintro e w12 ⟨v394, v397, rfl, ho0, ho1, hb⟩; refine ⟨_, rfl, ?_⟩; have HO395 := Aside0.mk (Kd.R_lower ho0 (below_size (bS2 HB.out GE390.out GE391.out))); have HO398 := Aside0.mk (Kd.R_lower ho1 (below_size (bS2 HB.out GE390.out GE391.out))); replace BK390 := Aside0.mk (kB BK390.out hb); replace BK391 := Aside0.mk (kB BK391.out hb); replace HB := Aside0.mk (below_step (bS2 HB.out GE390.out GE391.out) hb); (try clear hb); (try clear hb2); (try clear hk); (try clear hi); (try clear ho0); (try clear ho1)) | ((with_reducible refine gate_dst (N := 4) rfl ?_); refine box_event ?hg (N := 4) ?hd (cs := #[.slice none 0 0, .slice none 0 0]) (t := 26) ?hr ?_; (case hd => rfl); (case hg => rfl); (case hr => first | (go_simp; done) | (go_simp; rfl)); intro gb399 hg w13 hbox hb; replace HO395 := Aside0.mk (Kd.R_below (RU HO395.out) hb); replace HO398 := Aside0.mk (Kd.R_below (RU HO398.out) hb); have BK399 := Aside0.mk (hbox); have GW399 := Aside0.mk ((by rw [hg]; exact (below_size (bS2 HB.out GE390.out GE391.out)) : w.heap.size ≤ gb399)); have GE399 := Aside0.mk ((by rw [hg]; exact (below_size (bS2 HB.out GE390.out GE391.out)) : w.heap.size ≤ gb399)); replace HB := Aside0.mk (below_step (bS2 HB.out GE390.out GE391.out) hb); have NB390_399 := Aside0.mk (kN BK390.out hg); have NB399_390 := Aside0.mk (kM BK390.out hg); replace BK390 := Aside0.mk (kB BK390.out hb); have NB391_399 := Aside0.mk (kN BK391.out hg); have NB399_391 := Aside0.mk (kM BK391.out hg); replace BK391 := Aside0.mk (kB BK391.out hb); clear hb hbox hg; obtain ⟨Ao14, co14, eo14⟩ := Kd.R_slice HO395.out; subst eo14; have hnb15 := NB399_390.out; have hnc15 := NB390_399.out; have hnb16 := NB399_391.out; have hnc16 := NB391_399.out; have hcz17_0 : w13.cell? ⟨gb399, 0, none⟩ = some (.slice none 0 0) := (blk_cell BK399.out 0).trans rfl; have hcz17_1 : w13.cell? ⟨gb399, 1, none⟩ = some (.slice none 0 0) := (blk_cell BK399.out 1).trans rfl; have hfz17_0 := blk_frozen BK399.out 0; have hfz17_1 := blk_frozen BK399.out 1; obtain ⟨Ao18, co18, eo18⟩ := Kd.R_slice HO398.out; subst eo18) | ((with_reducible refine gate_store (t := 26) (p := 4) rfl ?_); refine store_event (t := 26) (p := 4) (v := ?vo_w19) (w1 := ((w13.setCell ⟨gb399, 0, none⟩ (.slice Ao14 t393.length co14)).setCell ⟨gb399, 1, none⟩ (.slice Ao18 t396.length co18))) ?hg ?ho ?hn ?hr ?_; (case ho => rfl); (case hg => rfl); (case hn => rfl); (case hr => first | (go_simp; done) | (go_simp; rfl)); intro w19 hw; have n0_ : Aside0 (Kd.R (Kd.int .i64) 3 w19 w.heap.size (fun k_ => some k_ ≠ (.slice Ao18 t396.length co18 : Value).ownBlock) (.slice Ao14 t393.length co14) t393) := ⟨(by rw [hw]; exact (by refine RU ?_; exact Kd.R_mono (Kd.R_far (p := ⟨gb399, 1, none⟩) (Kd.R_far (p := ⟨gb399, 0, none⟩) (Kd.R_types HO395.out BK399.out (by decide)) (fun _ hk => hk.2) (.slice Ao14 t393.length co14)) (fun _ hk => hk.2) (.slice Ao18 t396.length co18)) (fun _ hk => hk.1)))⟩; have n1_ : Aside0 (Kd.R (Kd.int .i64) 3 w19 w.heap.size (fun k_ => some k_ ≠ (.slice Ao14 t393.length co14 : Value).ownBlock) (.slice Ao18 t396.length co18) t396) := ⟨(by rw [hw]; exact (by refine RU ?_; exact Kd.R_mono (Kd.R_far (p := ⟨gb399, 1, none⟩) (Kd.R_far (p := ⟨gb399, 0, none⟩) (Kd.R_types HO398.out BK399.out (by decide)) (fun _ hk => hk.2) (.slice Ao14 t393.length co14)) (fun _ hk => hk.2) (.slice Ao18 t396.length co18)) (fun _ hk => hk.1)))⟩; have n2_ : Aside0 (w19.heap[gb390]? = some (.cells #[.slice A0_0 l0_0.length c0_0, .slice A0_1 l0_1.length c0_1] 26 (0, 0))) := ⟨(by rw [hw]; exact (by refine kU ?_; refine blk_far ?_ NB390_399.out _; refine kU ?_; refine blk_far ?_ NB390_399.out _; refine kU ?_; exact BK390.out))⟩; have n3_ : Aside0 (w19.heap[gb391]? = some (.cells #[.slice none 0 0, .slice none 0 0] 26 (0, 0))) := ⟨(by rw [hw]; exact (by refine kU ?_; refine blk_far ?_ NB391_399.out _; refine kU ?_; refine blk_far ?_ NB391_399.out _; refine kU ?_; exact BK391.out))⟩; have n4_ : Aside0 (w19.heap[gb399]? = some (.cells #[.slice Ao14 t393.length co14, .slice Ao18 t396.length co18] 26 (0, 0))) := ⟨(by rw [hw]; exact (by refine kU ?_; refine blk_put (cs := #[.slice Ao14 t393.length co14, .slice none 0 0]) ?_ 1 _ rfl; refine kU ?_; refine blk_put (cs := #[.slice none 0 0, .slice none 0 0]) ?_ 0 _ rfl; refine kU ?_; exact BK399.out))⟩; have n5_ : Aside0 (Below w.heap.size w w19) := ⟨(by rw [hw]; exact (bS3 HB.out GE390.out GE391.out GE399.out))⟩; clear hw; clear HO395; clear HO398; clear BK390; clear BK391; clear BK399; clear HB; have HO395 := n0_; have HO398 := n1_; have BK390 := n2_; have BK391 := n3_; have BK399 := n4_; have HB := n5_; clear n0_ n1_ n2_ n3_ n4_ n5_; have hcz20_0 : w19.cell? ⟨gb399, 0, none⟩ = some (.slice Ao14 t393.length co14) := (blk_cell BK399.out 0).trans rfl; have hcz20_1 : w19.cell? ⟨gb399, 1, none⟩ = some (.slice Ao18 t396.length co18) := (blk_cell BK399.out 1).trans rfl; have hfz20_0 := blk_frozen BK399.out 0; have hfz20_1 := blk_frozen BK399.out 1) | ((with_reducible refine gate_callee (f := 20) rfl ?_); refine goesL_ (some 16) rfl rfl Try.func20 (by kernel_rfl) rfl #[.slice Ao14 t393.length co14] rfl lU ?_; (with_reducible refine (slices_Reverse_int_int.calls k (fun k_ => some k_ = (.slice Ao14 t393.length co14 : Value).ownBlock) (.slice Ao14 t393.length co14) t393 t400 w _ ?side1 ?side2 A5.out).mono ?_); (case side1 => exact bS3 HB.out GE390.out GE391.out GE399.out); (case side2 => exact Kd.R_tight rfl HO395.out); rintro e w21 ⟨rfl, hy0, hb, hkp⟩; refine ⟨_, rfl, ?_⟩; replace BK390 := Aside0.mk (blk_kept (kU BK390.out) hkp (fun hs_ => (fun e_ => (Kd.R_ne HO395.out BK390.out (by decide)) e_) hs_)); replace BK391 := Aside0.mk (blk_kept (kU BK391.out) hkp (fun hs_ => (fun e_ => (Kd.R_ne HO395.out BK391.out (by decide)) e_) hs_)); replace HO398 := Aside0.mk (Kd.R_mono (ok' := fun k_ => some k_ ≠ (.slice Ao14 t393.length co14 : Value).ownBlock) (Kd.R_keptB (HO398.out) hkp (fun k_ hk_ hs_ => (hk_) hs_)) (fun k_ hk_ => hk_.1)); replace BK399 := Aside0.mk (blk_kept (kU BK399.out) hkp (fun hs_ => (fun e_ => (Kd.R_ne HO395.out BK399.out (by decide)) e_) hs_)); replace HO395 := Aside0.mk (Kd.R_reok rfl hy0 (fun k_ e_ => HO395.out.1 k_ e_)); replace HB := Aside0.mk (hb); (try clear hb); (try clear hkp); (try clear hy0); have hcz22_0 : w21.cell? ⟨gb390, 0, none⟩ = some (.slice A0_0 l0_0.length c0_0) := (blk_cell BK390.out 0).trans rfl; have hcz22_1 : w21.cell? ⟨gb390, 1, none⟩ = some (.slice A0_1 l0_1.length c0_1) := (blk_cell BK390.out 1).trans rfl; have hfz22_0 := blk_frozen BK390.out 0; have hfz22_1 := blk_frozen BK390.out 1))
  go_loopg [20] k (fun kq v20 w' => ∃ (x20_1 : Int) (x400000_1 : List Int) (x400001_1 : List Int) (u400000 : Value) (u400001 : Value), v20 = .int .i64 x20_1 ∧ Aside0 (impl_Flip.l0 kq l0_1 (l0_1.length : Int) x20_1 l0_0 l0_1 x400000_1 x400001_1 = some (r1, r2, r3)) ∧ Aside0 (kq ≤ k) ∧ Aside0 (Kd.R (Kd.int .i64) 3 w' w.heap.size (fun k_ => some k_ ≠ (u400001 : Value).ownBlock) u400000 x400000_1) ∧ Aside0 (Kd.R (Kd.int .i64) 3 w' w.heap.size (fun k_ => some k_ ≠ (u400000 : Value).ownBlock) u400001 x400001_1) ∧ Aside0 (w'.heap[gb390]? = some (.cells #[(.slice A0_0 l0_0.length c0_0), (.slice A0_1 l0_1.length c0_1)] 26 (0, 0))) ∧ Aside0 (w'.heap[gb391]? = some (.cells #[(.slice none 0 0), (.slice none 0 0)] 26 (0, 0))) ∧ Aside0 (w'.heap[gb399]? = some (.cells #[u400000, u400001] 26 (0, 0))) ∧ Aside0 (Below w.heap.size w w'))
  case atStart => exact ⟨(0), (t400), (t396), (.slice Ao14 t393.length co14), (.slice Ao18 t396.length co18), (by first | rfl | (simp; done) | (simp [*]; done)), H', ⟨Nat.le_refl _⟩, ⟨by refine RU ?_; exact HO395.out⟩, ⟨by refine RU ?_; exact HO398.out⟩, ⟨by refine kU ?_; exact BK390.out⟩, ⟨by refine kU ?_; exact BK391.out⟩, ⟨by refine kU ?_; exact BK399.out⟩, ⟨by exact bS3 HB.out GE390.out GE391.out GE399.out⟩⟩
  case round =>
   clear H'
   try clear c1
   try clear c2
   try clear p2
   try clear c3
   try clear c7
   try clear c8
   try clear c15
   try clear c16
   try clear c20
   try clear hcz11_0
   try clear hcz11_1
   try clear hcz17_0
   try clear hcz17_1
   try clear hcz20_0
   try clear hcz20_1
   try clear hcz22_0
   try clear hcz22_1
   try clear hcz9_0
   try clear hcz9_1
   try clear hfz11_0
   try clear hfz11_1
   try clear hfz17_0
   try clear hfz17_1
   try clear hfz20_0
   try clear hfz20_1
   try clear hfz22_0
   try clear hfz22_1
   try clear hfz9_0
   try clear hfz9_1
   obtain ⟨x20_1, x400000_1, x400001_1, u400000, u400001, rfl, HA, HK1, HO_400000, HO_400001, BK390, BK391, BK399, HB⟩ := hrel
   cases gk with
   | zero => exact absurd HA.out (by simp [impl_Flip.l0])
   | succ k1 =>
    have H := HA.out
    clear HA
    simp only [impl_Flip.l0] at H
    by_cases c23 : x20_1 < (l0_1.length : Int)
    ·
     rw [if_pos c23] at H
     have c23b0 : decide (x20_1 < (l0_1.length : Int)) = true := decide_eq_true c23
     clear c23
     by_cases c24 : 0 ≤ x20_1
     ·
      rw [if_pos c24] at H
      have c24b0 : decide (0 ≤ x20_1) = true := decide_eq_true c24
      clear c24
      by_cases c25 : x20_1 < (l0_1.length : Int)
      ·
       rw [if_pos c25] at H
       have c25b0 : decide (x20_1 < (l0_1.length : Int)) = true := decide_eq_true c25
       clear c25
       replace H := Option.bind_eq_some_iff.mp H
       obtain ⟨t402, A260, H⟩ := H
       replace H : ((slices_Reverse_int_int.f k1 t402).bind fun t405 => ((impl_PlaceOf.f k1 x400000_1 t405).bind fun t406 => (if 0 ≤ t406 then (if t406 < (x400001_1.length : Int) then (impl_Flip.l0 k1 l0_1 (l0_1.length : Int) (wrap64 (x20_1 + 1)) l0_0 l0_1 x400000_1 (x400001_1.set (t406 : Int).toNat (rd l0_1 x20_1))) else (none)) else (none)))) = some (r1, r2, r3) := H
       have A26 := Aside0.mk A260
       clear A260
       replace H := Option.bind_eq_some_iff.mp H
       obtain ⟨t405, A270, H⟩ := H
       replace H : ((impl_PlaceOf.f k1 x400000_1 t405).bind fun t406 => (if 0 ≤ t406 then (if t406 < (x400001_1.length : Int) then (impl_Flip.l0 k1 l0_1 (l0_1.length : Int) (wrap64 (x20_1 + 1)) l0_0 l0_1 x400000_1 (x400001_1.set (t406 : Int).toNat (rd l0_1 x20_1))) else (none)) else (none))) = some (r1, r2, r3) := H
       have A27 := Aside0.mk A270
       clear A270
       replace H := Option.bind_eq_some_iff.mp H
       obtain ⟨t406, A280, H⟩ := H
       replace H : (if 0 ≤ t406 then (if t406 < (x400001_1.length : Int) then (impl_Flip.l0 k1 l0_1 (l0_1.length : Int) (wrap64 (x20_1 + 1)) l0_0 l0_1 x400000_1 (x400001_1.set (t406 : Int).toNat (rd l0_1 x20_1))) else (none)) else (none)) = some (r1, r2, r3) := H
       have A28 := Aside0.mk A280
       clear A280
       by_cases c29 : 0 ≤ t406
       ·
        rw [if_pos c29] at H
        have c29b0 : decide (0 ≤ t406) = true := decide_eq_true c29
        clear c29
        by_cases c30 : t406 < (x400001_1.length : Int)
        ·
         rw [if_pos c30] at H
         have c30b0 : decide (t406 < (x400001_1.length : Int)) = true := decide_eq_true c30
         clear c30
         obtain ⟨y407, hy407⟩ : ∃ y_ : List Int, y_ = (x400001_1.set (t406 : Int).toNat (rd l0_1 x20_1)) := ⟨_, rfl⟩
         replace H : (impl_Flip.l0 k1 l0_1 (l0_1.length : Int) (wrap64 (x20_1 + 1)) l0_0 l0_1 x400000_1 y407) = some (r1, r2, r3) := by first | (rw [hy407]; with_reducible exact H) | (have H2_ := (Option.bind_some _ _).symm.trans H; rw [hy407]; with_reducible exact H2_) | (have H2_ := (Option.bind_some _ _).symm.trans H; with_reducible exact H2_) | with_reducible exact H | (rw [hy407]; exact H) | exact H
         have Ny407 := Aside0.mk hy407
         clear hy407
         have H' := Aside0.mk H
         clear H
         have p401 : 0 ≤ (x20_1 : Int) := of_decide_eq_true (by first | (with_reducible assumption) | assumption)
         have q401 : x20_1 < (l0_1.length : Int) := of_decide_eq_true (by first | (with_reducible assumption) | assumption)
         obtain ⟨ad401, e401, hx401_0⟩ := Kd.at_int HR0_1.out x20_1 p401 q401
         cases e401
         replace hx401_0 := (HB.out.cell (World.block_lt_of_cell? w _ hx401_0)).trans hx401_0
         replace p401 := eq_true p401
         replace q401 := eq_true q401
         have hnb32 := NB390_391.out
         have hnc32 := NB391_390.out
         have hnb33 := NB390_399.out
         have hnc33 := NB399_390.out
         have hcz34_0 : wr.cell? ⟨gb390, 0, none⟩ = some (.slice A0_0 l0_0.length c0_0) := (blk_cell BK390.out 0).trans rfl
         have hcz34_1 : wr.cell? ⟨gb390, 1, none⟩ = some (.slice (some ad401) l0_1.length c0_1) := (blk_cell BK390.out 1).trans rfl
         have hfz34_0 := blk_frozen BK390.out 0
         have hfz34_1 := blk_frozen BK390.out 1
         try go_wp2_with (first | ((with_reducible refine gate_callee (f := 21) rfl ?_); refine goesL_ (some 28) rfl rfl Try.func21 (by kernel_rfl) rfl #[.slice A0_0 l0_0.length c0_0, .int .i64 x20_1] rfl lU ?_; (with_reducible refine (impl_IndexOf.calls k1 _ _ l0_0 x20_1 t402 _ ?side1 ?side2 A26.out).mono ?_); (case side1 => exact cU (Kd.C_below HR0_0.out HB.out)); (case side2 => exact HC0_0.out); rintro e w35 ⟨v403, rfl, ho0, hb⟩; refine ⟨_, rfl, ?_⟩; have HO404 := Aside0.mk (Kd.R_lower (Kd.R_new' (Kd.R_new' ho0 (Kd.R_lt (RU HO_400000.out))) (Kd.R_lt (RU HO_400001.out))) (below_size (bS3 HB.out GE390.out GE391.out GE399.out))); replace HO_400000 := Aside0.mk (Kd.R_elder' (RU HO_400000.out) (Kd.R_base ho0) hb); replace HO_400001 := Aside0.mk (Kd.R_elder' (RU HO_400001.out) (Kd.R_base ho0) hb); replace BK390 := Aside0.mk (kB BK390.out hb); replace BK391 := Aside0.mk (kB BK391.out hb); replace BK399 := Aside0.mk (kB BK399.out hb); replace HB := Aside0.mk (below_step (bS3 HB.out GE390.out GE391.out GE399.out) hb); (try clear hb); (try clear hb2); (try clear hk); (try clear hi); (try clear ho0); obtain ⟨Ao36, co36, eo36⟩ := Kd.R_slice HO404.out; subst eo36) | ((with_reducible refine gate_callee (f := 20) rfl ?_); refine goesL_ (some 30) rfl rfl Try.func20 (by kernel_rfl) rfl #[.slice Ao36 t402.length co36] rfl lU ?_; (with_reducible refine (slices_Reverse_int_int.calls k1 (fun k_ => some k_ = (.slice Ao36 t402.length co36 : Value).ownBlock) (.slice Ao36 t402.length co36) t402 t405 w _ ?side1 ?side2 A27.out).mono ?_); (case side1 => exact bS3 HB.out GE390.out GE391.out GE399.out); (case side2 => exact Kd.R_tight rfl HO404.out); rintro e w37 ⟨rfl, hy0, hb, hkp⟩; refine ⟨_, rfl, ?_⟩; replace HO_400000 := Aside0.mk (Kd.R_mono (ok' := fun k_ => some k_ ≠ (u400001 : Value).ownBlock ∧ some k_ ≠ (.slice Ao36 t402.length co36 : Value).ownBlock) (Kd.R_keptB (HO_400000.out) hkp (fun k_ hk_ hs_ => (hk_.2) hs_)) (fun k_ hk_ => ⟨hk_.1.1, hk_.1.2⟩)); replace HO_400001 := Aside0.mk (Kd.R_mono (ok' := fun k_ => some k_ ≠ (u400000 : Value).ownBlock ∧ some k_ ≠ (.slice Ao36 t402.length co36 : Value).ownBlock) (Kd.R_keptB (HO_400001.out) hkp (fun k_ hk_ hs_ => (hk_.2) hs_)) (fun k_ hk_ => ⟨hk_.1.1, hk_.1.2⟩)); replace BK390 := Aside0.mk (blk_kept (kU BK390.out) hkp (fun hs_ => (fun e_ => (Kd.R_ne HO404.out BK390.out (by decide)) e_) hs_)); replace BK391 := Aside0.mk (blk_kept (kU BK391.out) hkp (fun hs_ => (fun e_ => (Kd.R_ne HO404.out BK391.out (by decide)) e_) hs_)); replace BK399 := Aside0.mk (blk_kept (kU BK399.out) hkp (fun hs_ => (fun e_ => (Kd.R_ne HO404.out BK399.out (by decide)) e_) hs_)); replace HO404 := Aside0.mk (Kd.R_reok rfl hy0 (fun k_ e_ => HO404.out.1 k_ e_)); replace HB := Aside0.mk (hb); (try clear hb); (try clear hkp); (try clear hy0)))
         replace HO_400000 := Aside0.mk (Kd.R_drew HO_400000.out)
         replace HO_400001 := Aside0.mk (Kd.R_drew HO_400001.out)
         replace HO404 := Aside0.mk (Kd.R_drew HO404.out)
         replace BK390 := Aside0.mk (blk_drew BK390.out)
         replace BK391 := Aside0.mk (blk_drew BK391.out)
         replace BK399 := Aside0.mk (blk_drew BK399.out)
         replace HB := Aside0.mk (below_drew1 HB.out)
         obtain ⟨Ao39, co39, eo39⟩ := Kd.R_slice HO_400000.out
         (first | subst eo39 | (injection eo39 with f1_ f2_ f3_; have f4_ := f1_.symm; have f5_ := f3_.symm; clear f1_ f2_ f3_; subst f4_; subst f5_))
         refine start_ (n := 9) (S := fun w' => w'.cell? ⟨gb399, 0, none⟩ = some (.slice Ao39 x400000_1.length co39) ∧ w'.cell? ⟨gb399, 1, none⟩ = some (u400001)) (ds := [8]) #[false, false, false, false, false, false, false, false, false] (by kernel_rfl) rfl rfl ⟨(blk_cell BK399.out 0).trans rfl, (blk_cell BK399.out 1).trans rfl⟩ (fun hHeld => ?_); refine with_tabW impl_Flip.tab10 impl_Flip.bits10 (fun HT_ HW_ => ?_)
         generalize w37.drew = w38 at HO_400000 HO_400001 HO404 BK390 BK391 BK399 HB hHeld ⊢
         refine pure_ (i := 0) (N := some 31) (v := ?_) (a' := ?_) #[true, false, false, false, false, false, false, false, false] rfl rfl (any_of HT_.out (by kernel_rfl)) (fun _ _ _ h => h) (Or.inl ⟨by rfl, ?_⟩) ?_ ?_
         rotate_left
         ·
          intro w'
          go_simp
          with_reducible rfl
         rotate_left
         ·
          simp only [Act.put, List.setIfInBounds_toArray, List.set_cons_zero, List.set_cons_succ, i64_w, i32_w]
          rfl
         refine pure_ (i := 2) (N := some 33) (v := ?_) (a' := ?_) #[true, false, true, false, false, false, false, false, false] rfl rfl (any_of HT_.out (by kernel_rfl)) (fun _ _ _ h => h) (Or.inl ⟨by rfl, ?_⟩) ?_ ?_
         rotate_left
         ·
          intro w'
          go_simp
          with_reducible rfl
         rotate_left
         ·
          simp only [Act.put, List.setIfInBounds_toArray, List.set_cons_zero, List.set_cons_succ, i64_w, i32_w]
          rfl
         refine pure_ (i := 4) (N := some 35) (v := ?_) (a' := ?_) #[true, false, true, false, true, false, false, false, false] rfl rfl (any_of HT_.out (by kernel_rfl)) (fun _ _ _ h => h) (Or.inl ⟨by rfl, ?_⟩) ?_ ?_
         rotate_left
         ·
          intro w'
          go_simp
          with_reducible rfl
         rotate_left
         ·
          simp only [Act.put, List.setIfInBounds_toArray, List.set_cons_zero, List.set_cons_succ, i64_w, i32_w]
          rfl
         refine pure_ (i := 6) (N := some 37) (v := ?_) (a' := ?_) #[true, false, true, false, true, false, true, false, false] rfl rfl (any_of HT_.out (by kernel_rfl)) (fun _ _ _ h => h) (Or.inl ⟨by rfl, ?_⟩) ?_ ?_
         rotate_left
         ·
          intro w'
          go_simp
          with_reducible rfl
         rotate_left
         ·
          simp only [Act.put, List.setIfInBounds_toArray, List.set_cons_zero, List.set_cons_succ, i64_w, i32_w]
          rfl
         refine take_ (i := 1) (N := some 32) (v := ?_) (a' := ?_) #[true, true, true, false, true, false, true, false, false] rfl rfl (take_ofW HT_.out HW_.out (by kernel_rfl)) (fun _ _ _ h => h) (Or.inl ⟨by rfl, ?_⟩) hHeld ?_ ?_
         rotate_left
         ·
          rintro w' ⟨s0, s1⟩
          go_simp
          with_reducible rfl
         rotate_left
         ·
          simp only [Act.put, List.setIfInBounds_toArray, List.set_cons_zero, List.set_cons_succ, i64_w, i32_w]
          rfl
         refine take_ (i := 3) (N := some 34) (v := ?_) (a' := ?_) #[true, true, true, true, true, false, true, false, false] rfl rfl (take_ofW HT_.out HW_.out (by kernel_rfl)) (fun _ _ _ h => h) (Or.inl ⟨by rfl, ?_⟩) hHeld ?_ ?_
         rotate_left
         ·
          rintro w' ⟨s0, s1⟩
          go_simp
          with_reducible rfl
         rotate_left
         ·
          simp only [Act.put, List.setIfInBounds_toArray, List.set_cons_zero, List.set_cons_succ, i64_w, i32_w]
          rfl
         refine one_ (i := 5) (N := some 36) #[true, true, true, true, true, true, true, false, false] rfl rfl (one_of HT_.out (by kernel_rfl)) (by decide) (fun K hK => ?_)
         refine goes_ Try.func22 (by kernel_rfl) rfl #[.slice Ao39 x400000_1.length co39, .slice Ao36 t405.length co36] (by rfl) rfl rfl (by (try simp only [List.map_toArray, List.map_cons, List.map_nil]); first | done | (rw [show t405.length = t402.length from (Kd.R_reads' HO404.out).1.symm] <;> rfl) | rfl | (simp only [List.length_drop, List.length_take]; rfl)) ?_
         with_reducible refine (impl_PlaceOf.calls k1 _ _ x400000_1 _ _ t405 t406 _ ?side1 ?side2 ?side3 ?side4 A28.out).mono ?_
         (case side1 => exact cU (Kd.R_reads' HO_400000.out).2.2)
         (case side2 => exact (Kd.R_reads' HO_400000.out).2.1)
         (case side3 => exact cU (Kd.R_reads' HO404.out).2.2)
         (case side4 => rw [show t405.length = t402.length from (Kd.R_reads' HO404.out).1.symm]; exact (Kd.R_reads' HO404.out).2.1)
         rintro e w' ⟨rfl, ⟨nd, rfl⟩⟩
         refine ⟨_, rfl, ?_⟩
         have p31 : 0 ≤ (t406 : Int) := of_decide_eq_true (by first | (with_reducible assumption) | assumption)
         have q31 : (t406 : Int) < ((x400001_1.length : Int) : Int) := of_decide_eq_true (by first | (with_reducible assumption) | assumption)
         obtain ⟨go31, co31, eo31, gb31, gl31, cl31, HG31⟩ := Kd.R_form HO_400001.out (by omega)
         (first | cases eo31 | (injection eo31 with ea_ en_ ec_; (first | subst ea_ | (injection ea_ with ea_; subst ea_)); subst ec_; clear en_))
         have GB31 := Aside0.mk gb31
         have GG31 := Aside0.mk HG31
         clear gb31 gl31 HG31
         obtain ⟨hx31_0, hf31_0⟩ := Kd.R_celln 0 HO_400001.out (t406 : Int) p31 q31
         replace p31 := eq_true p31
         replace q31 := eq_true q31
         have HP40 := Kd.R_putn HO_400001.out (t406 : Int) (rd l0_1 x20_1)
         rw [← Ny407.out] at HP40
         have HQ40 := Aside0.mk HP40
         clear HP40
         refine hK.out _ _ ⟨(blk_cell BK399.out 0).trans rfl, (blk_cell BK399.out 1).trans rfl⟩ (fun hHeld => ?_)
         clear hK K
         refine norm_ (a' := ?_) ?_ ?_
         rotate_left
         ·
          show Act.put _ (some 36) _ = _
          simp only [Act.put, List.setIfInBounds_toArray, List.set_cons_zero, List.set_cons_succ, i64_w, i32_w]
          rfl
         refine pure_ (i := 7) (N := some 38) (v := ?_) (a' := ?_) #[true, true, true, true, true, true, true, true, false] rfl rfl (any_of HT_.out (by kernel_rfl)) (fun _ _ _ h => h) (Or.inl ⟨by rfl, ?_⟩) ?_ ?_
         rotate_left
         ·
          intro w'
          go_simp
          with_reducible rfl
         rotate_left
         ·
          simp only [Act.put, List.setIfInBounds_toArray, List.set_cons_zero, List.set_cons_succ, i64_w, i32_w]
          rfl
         refine last_ (i := 8) (N := none) #[true, true, true, true, true, true, true, true, true] rfl rfl (one_of HT_.out (by kernel_rfl)) (by decide) (fun K hK => ?_)
         refine skip_ (w1 := ?_) (by rfl) rfl ?_ ?_
         rotate_left
         ·
          go_simp
          rfl
         refine hK.out _ _ ?_
         clear hK K
         refine done_ (done_of HT_.out (by kernel_rfl)) ?_
         try go_wp2
         go_roundg k1
         case measure => have := HK1.out; omega
         case rel => exact ⟨(wrap64 (x20_1 + 1)), (x400000_1), (y407), (.slice Ao39 x400000_1.length co39), (.slice (some ⟨go31, 0, none⟩) x400001_1.length co31), (by first | rfl | (simp; done) | (simp [*]; done)), H', ⟨by have := HK1.out; omega⟩, ⟨by refine RU ?_; exact Kd.R_mono (Kd.R_far (p := ⟨go31, (t406 : Int).toNat, none⟩) (Kd.R_mono HO_400000.out (fun k_ hk => (⟨hk, fun e_ => hk.1 (by rw [e_]; rfl)⟩ : _ ∧ k_ ≠ go31))) (fun _ hk => hk.2) (.int .i64 (rd l0_1 x20_1))) (fun _ hk => hk.1.1)⟩, ⟨by refine RU ?_; exact Kd.R_mono HQ40.out (fun _ hk => hk.1)⟩, ⟨by refine kU ?_; refine blk_far ?_ (by have h_ := Kd.R_ne HO_400001.out BK390.out (by decide); intro e_; exact h_ (by rw [e_]; rfl)) _; refine kU ?_; exact BK390.out⟩, ⟨by refine kU ?_; refine blk_far ?_ (by have h_ := Kd.R_ne HO_400001.out BK391.out (by decide); intro e_; exact h_ (by rw [e_]; rfl)) _; refine kU ?_; exact BK391.out⟩, ⟨by refine kU ?_; refine blk_far ?_ (by have h_ := Kd.R_ne HO_400001.out BK399.out (by decide); intro e_; exact h_ (by rw [e_]; rfl)) _; refine kU ?_; exact BK399.out⟩, ⟨by exact bS4 HB.out GB31.out GE390.out GE391.out GE399.out⟩⟩
        ·
         rw [if_neg c30] at H
         exact absurd H (by simp)
       ·
        rw [if_neg c29] at H
        exact absurd H (by simp)
      ·
       rw [if_neg c25] at H
       exact absurd H (by simp)
     ·
      rw [if_neg c24] at H
      exact absurd H (by simp)
    ·
     rw [if_neg c23] at H
     have c23b0 : decide (x20_1 < (l0_1.length : Int)) = false := decide_eq_false c23
     clear c23
     simp only [Option.some.injEq, Prod.mk.injEq] at H
     obtain ⟨rfl, rfl, rfl⟩ := H
     have hnb41 := NB399_390.out
     have hnc41 := NB390_399.out
     have hnb42 := NB399_391.out
     have hnc42 := NB391_399.out
     have hcz43_0 : wr.cell? ⟨gb399, 0, none⟩ = some (u400000) := (blk_cell BK399.out 0).trans rfl
     have hcz43_1 : wr.cell? ⟨gb399, 1, none⟩ = some (u400001) := (blk_cell BK399.out 1).trans rfl
     have hfz43_0 := blk_frozen BK399.out 0
     have hfz43_1 := blk_frozen BK399.out 1
     obtain ⟨Ao44, co44, eo44⟩ := Kd.R_slice HO_400000.out
     subst eo44
     have hnb45 := NB391_390.out
     have hnc45 := NB390_391.out
     have hcz46_0 : wr.cell? ⟨gb391, 0, none⟩ = some (.slice none 0 0) := (blk_cell BK391.out 0).trans rfl
     have hcz46_1 : wr.cell? ⟨gb391, 1, none⟩ = some (.slice none 0 0) := (blk_cell BK391.out 1).trans rfl
     have hfz46_0 := blk_frozen BK391.out 0
     have hfz46_1 := blk_frozen BK391.out 1
     obtain ⟨Ao47, co47, eo47⟩ := Kd.R_slice HO_400001.out
     subst eo47
     go_wp2
     refine bodyPost_ret (results_ct rfl _ _ gb391 26 #[.slice Ao44 x400000_1.length co44, .slice Ao47 x400001_1.length co47] (0, 0) _ rfl (by refine kU ?_; refine blk_put (cs := #[.slice Ao44 x400000_1.length co44, .slice none 0 0]) ?_ 1 _ rfl; refine kU ?_; refine blk_put (cs := #[.slice none 0 0, .slice none 0 0]) ?_ 0 _ rfl; refine kU ?_; exact BK391.out) Try.underlying26 rfl (by kernel_rfl)) rfl ?_
     exact ⟨_, _, by first | rfl | (simp [errW_none, errW_some] <;> rfl) | (simp [*, errW_none, errW_some] <;> rfl), by refine RU ?_; exact Kd.R_mono (Kd.R_far (p := ⟨gb391, 1, none⟩) (Kd.R_far (p := ⟨gb391, 0, none⟩) (Kd.R_types HO_400000.out BK391.out (by decide)) (fun _ hk => hk.2) (.slice Ao44 x400000_1.length co44)) (fun _ hk => hk.2) (.slice Ao47 x400001_1.length co47)) (fun _ hk => hk.1), by refine RU ?_; exact Kd.R_mono (Kd.R_far (p := ⟨gb391, 1, none⟩) (Kd.R_far (p := ⟨gb391, 0, none⟩) (Kd.R_types HO_400001.out BK391.out (by decide)) (fun _ hk => hk.2) (.slice Ao44 x400000_1.length co44)) (fun _ hk => hk.2) (.slice Ao47 x400001_1.length co47)) (fun _ hk => hk.1), by exact bS3 HB.out GE390.out GE391.out GE399.out⟩
 ·
  replace c3 := Bool.eq_false_iff.mpr c3
  subst c3
  have H1 : (some (([] : List Int), ([] : List Int), 1)) = some (r1, r2, r3) := by rw [if_neg (show ¬ (false = true) by decide)] at H; exact H
  clear H
  have H := H1
  clear H1
  simp only [Option.some.injEq, Prod.mk.injEq] at H
  obtain ⟨rfl, rfl, rfl⟩ := H
  go_enter Try.func7, Try.ntmps7
  go_wp2_with (first | ((with_reducible refine gate_dst (N := 1) rfl ?_); refine box_event ?hg (N := 1) ?hd (cs := #[.slice A0_0 l0_0.length c0_0, .slice A0_1 l0_1.length c0_1]) (t := 26) ?hr ?_; (case hd => rfl); (case hg => rfl); (case hr => first | (go_simp; done) | (go_simp; rfl)); intro gb390 hg w48 hbox hb; have BK390 := Aside0.mk (hbox); have GW390 := Aside0.mk ((by rw [hg]; exact (below_size (bU HB.out)) : w.heap.size ≤ gb390)); have GE390 := Aside0.mk ((by rw [hg]; exact (below_size (bU HB.out)) : w.heap.size ≤ gb390)); replace HB := Aside0.mk (below_step (bU HB.out) hb); clear hb hbox hg) | ((with_reducible refine gate_dst (N := 2) rfl ?_); refine box_event ?hg (N := 2) ?hd (cs := #[.slice none 0 0, .slice none 0 0]) (t := 26) ?hr ?_; (case hd => rfl); (case hg => rfl); (case hr => first | (go_simp; done) | (go_simp; rfl)); intro gb391 hg w49 hbox hb; have BK391 := Aside0.mk (hbox); have GW391 := Aside0.mk ((by rw [hg]; exact (below_size (bS1 HB.out GE390.out)) : w.heap.size ≤ gb391)); have GE391 := Aside0.mk ((by rw [hg]; exact (below_size (bS1 HB.out GE390.out)) : w.heap.size ≤ gb391)); replace HB := Aside0.mk (below_step (bS1 HB.out GE390.out) hb); have NB390_391 := Aside0.mk (kN BK390.out hg); have NB391_390 := Aside0.mk (kM BK390.out hg); replace BK390 := Aside0.mk (kB BK390.out hb); clear hb hbox hg; have hnb50 := NB390_391.out; have hnc50 := NB391_390.out; have hcz51_0 : w49.cell? ⟨gb390, 0, none⟩ = some (.slice A0_0 l0_0.length c0_0) := (blk_cell BK390.out 0).trans rfl; have hcz51_1 : w49.cell? ⟨gb390, 1, none⟩ = some (.slice A0_1 l0_1.length c0_1) := (blk_cell BK390.out 1).trans rfl; have hfz51_0 := blk_frozen BK390.out 0; have hfz51_1 := blk_frozen BK390.out 1) | ((with_reducible refine gate_callee (f := 15) rfl ?_); refine goesL_ (some 9) rfl rfl Try.func15 (by kernel_rfl) rfl #[.agg #[.slice A0_0 l0_0.length c0_0, .slice A0_1 l0_1.length c0_1]] rfl lU ?_; (with_reducible refine (impl_ArrayOk.calls k _ _ l0_0 _ _ l0_1 false _ ?side1 ?side2 ?side3 ?side4 A2.out).mono ?_); (case side1 => exact cU (Kd.C_below HR0_0.out HB.out)); (case side2 => exact HC0_0.out); (case side3 => exact cU (Kd.C_below HR0_1.out HB.out)); (case side4 => exact HC0_1.out); rintro e w52 ⟨rfl, hb⟩; refine ⟨_, rfl, ?_⟩; replace BK390 := Aside0.mk (kB BK390.out hb); replace BK391 := Aside0.mk (kB BK391.out hb); replace HB := Aside0.mk (below_step (bS2 HB.out GE390.out GE391.out) hb); (try clear hb); (try clear hb2); (try clear hk); (try clear hi); have hcz53_0 : w52.cell? ⟨gb391, 0, none⟩ = some (.slice none 0 0) := (blk_cell BK391.out 0).trans rfl; have hcz53_1 : w52.cell? ⟨gb391, 1, none⟩ = some (.slice none 0 0) := (blk_cell BK391.out 1).trans rfl; have hfz53_0 := blk_frozen BK391.out 0; have hfz53_1 := blk_frozen BK391.out 1))
  refine bodyPost_ret (results_ct rfl _ _ gb391 26 #[.slice none 0 0, .slice none 0 0] (0, 0) _ rfl (by refine kU ?_; refine blk_put (cs := #[.slice none 0 0, .slice none 0 0]) ?_ 1 _ rfl; refine kU ?_; refine blk_put (cs := #[.slice none 0 0, .slice none 0 0]) ?_ 0 _ rfl; refine kU ?_; exact BK391.out) Try.underlying26 rfl (by kernel_rfl)) rfl ?_
  exact ⟨_, _, by first | rfl | (simp [errW_none, errW_some] <;> rfl) | (simp [*, errW_none, errW_some] <;> rfl), by first | exact Kd.R_nil _ _ _ _ _ | exact Kd.N_nil _ _ _ _ _ | exact Kd.V_nil _ _ _ _ _ | exact Kd.Q_nil _ _ _ _ _ | exact Kd.S_nil _ _ _ _ _, by first | exact Kd.R_nil _ _ _ _ _ | exact Kd.N_nil _ _ _ _ _ | exact Kd.V_nil _ _ _ _ _ | exact Kd.Q_nil _ _ _ _ _ | exact Kd.S_nil _ _ _ _ _, by exact bS2 HB.out GE390.out GE391.out⟩

/-! ### spec_NumOk: function 40 -/
def spec_NumOk.f (a0 : Int) : Option (Bool) := (spec_l1In.f a0 (-1000000000000) 1000000000000).bind fun t408 => (some t408)
set_option maxHeartbeats 8000000 in
set_option maxRecDepth 100000 in
theorem spec_NumOk.calls (a0 : Int) (r : Bool) (w : World) (h : spec_NumOk.f a0 = some r) :
  Calls Try.prog 40 #[.int .i64 a0] w fun e w' => e = .returned (.bool r) ∧ Drawn0 w w' := by
 have H : ((spec_l1In.f a0 (-1000000000000) 1000000000000).bind fun t408 => (some t408)) = some r := h
 clear h
 replace H := Option.bind_eq_some_iff.mp H
 obtain ⟨t408, A20, H⟩ := H
 replace H : (some t408) = some r := H
 have A2 := Aside0.mk A20
 clear A20
 obtain rfl := Option.some.inj H
 go_enter Try.func40, Try.ntmps40
 go_wp2_with (first | ((with_reducible refine gate_callee (f := 48) rfl ?_); refine goesL_ (some 4) rfl rfl Try.func48 (by kernel_rfl) rfl #[.int .i64 a0, .int .i64 (-1000000000000), .int .i64 1000000000000] rfl lU ?_; (with_reducible refine (spec_l1In.calls a0 (-1000000000000) 1000000000000 t408 _ A2.out).mono ?_); rintro e w' ⟨rfl, ⟨nd, rfl⟩⟩; refine ⟨_, rfl, ?_⟩))
 go_ret
 exact ⟨rU, dU⟩

/-! ### spec_ArrayOk: function 23 -/
def spec_ArrayOk.l0 : Nat → Int → List Int → List Int → Option (Bool)
 | 0, _, _, _ => none
 | k + 1, x3, x410000, x410001 => if x3 < (x410001.length : Int) then (if 0 ≤ x3 then ((spec_NumOk.f (rd x410001 x3)).bind fun t412 => (if t412 = true then (spec_ArrayOk.l0 k (wrap64 (x3 + 1)) x410000 x410001) else (some false))) else (none)) else (some true)
def spec_ArrayOk.f (k : Nat) (l0_0 : List Int) (l0_1 : List Int) : Option (Bool) := (spec_SizeOf.f k l0_0).bind fun t410 => (if t410 = (l0_1.length : Int) then (spec_ArrayOk.l0 k 0 l0_0 l0_1) else (some false))
set_option maxHeartbeats 8000000 in
set_option maxRecDepth 100000 in
theorem spec_ArrayOk.calls (k : Nat) (A0_0 : Option Addr) (c0_0 : Nat) (l0_0 : List Int) (A0_1 : Option Addr) (c0_1 : Nat) (l0_1 : List Int) (r : Bool) (w : World) (hr0_0 : Kd.C (Kd.int .i64) w A0_0 l0_0.length l0_0) (hc0_0 : l0_0.length ≤ c0_0) (hr0_1 : Kd.C (Kd.int .i64) w A0_1 l0_1.length l0_1) (hc0_1 : l0_1.length ≤ c0_1) (h : spec_ArrayOk.f k l0_0 l0_1 = some r) :
  Calls Try.prog 23 #[.agg #[.slice A0_0 l0_0.length c0_0, .slice A0_1 l0_1.length c0_1]] w fun e w' => e = .returned (.bool r) ∧ Below w.heap.size w w' := by
 have hu26 := Try.underlying26
 have HR0_0 := Aside0.mk hr0_0
 have HC0_0 := Aside0.mk hc0_0
 clear hr0_0 hc0_0
 have HR0_1 := Aside0.mk hr0_1
 have HC0_1 := Aside0.mk hc0_1
 clear hr0_1 hc0_1
 have HB := Aside0.mk (Below.refl w.heap.size w)
 have H : ((spec_SizeOf.f k l0_0).bind fun t410 => (if t410 = (l0_1.length : Int) then (spec_ArrayOk.l0 k 0 l0_0 l0_1) else (some false))) = some r := h
 clear h
 replace H := Option.bind_eq_some_iff.mp H
 obtain ⟨t410, A20, H⟩ := H
 replace H : (if t410 = (l0_1.length : Int) then (spec_ArrayOk.l0 k 0 l0_0 l0_1) else (some false)) = some r := H
 have A2 := Aside0.mk A20
 clear A20
 by_cases c3 : t410 = (l0_1.length : Int)
 ·
  rw [if_pos c3] at H
  have c3b0 : (t410 == (l0_1.length : Int)) = true := beq_iff_eq.mpr c3
  have c3b1 : (t410 != (l0_1.length : Int)) = false := bne_eq_false_iff_eq.mpr c3
  clear c3
  have H' := Aside0.mk H
  clear H
  go_enter Try.func23, Try.ntmps23
  go_wp2_with (first | ((with_reducible refine gate_dst (N := 1) rfl ?_); refine box_event ?hg (N := 1) ?hd (cs := #[.slice A0_0 l0_0.length c0_0, .slice A0_1 l0_1.length c0_1]) (t := 26) ?hr ?_; (case hd => rfl); (case hg => rfl); (case hr => first | (go_simp; done) | (go_simp; rfl)); intro gb409 hg w4 hbox hb; have BK409 := Aside0.mk (hbox); have GW409 := Aside0.mk ((by rw [hg]; exact (below_size (bU HB.out)) : w.heap.size ≤ gb409)); have GE409 := Aside0.mk ((by rw [hg]; exact (below_size (bU HB.out)) : w.heap.size ≤ gb409)); replace HB := Aside0.mk (below_step (bU HB.out) hb); clear hb hbox hg; have hcz5_0 : w4.cell? ⟨gb409, 0, none⟩ = some (.slice A0_0 l0_0.length c0_0) := (blk_cell BK409.out 0).trans rfl; have hcz5_1 : w4.cell? ⟨gb409, 1, none⟩ = some (.slice A0_1 l0_1.length c0_1) := (blk_cell BK409.out 1).trans rfl; have hfz5_0 := blk_frozen BK409.out 0; have hfz5_1 := blk_frozen BK409.out 1) | (go_at_call 39; (repeat rw [i64_w]); (with_reducible refine (spec_SizeOf.calls k _ _ l0_0 t410 _ ?side1 ?side2 A2.out).mono ?_); (case side1 => exact cU (Kd.C_below HR0_0.out HB.out)); (case side2 => exact HC0_0.out); rintro e w' ⟨rfl, ⟨nd, rfl⟩⟩; (try exact qU)))
  repeat (go_quiet ((go_at_call 39; (repeat rw [i64_w]); (with_reducible refine (spec_SizeOf.calls k _ _ l0_0 t410 _ ?side1 ?side2 A2.out).mono ?_); (case side1 => exact cU (Kd.C_below HR0_0.out HB.out)); (case side2 => exact HC0_0.out); rintro e w' ⟨rfl, ⟨nd, rfl⟩⟩; (try exact qU))); try go_wp2_with (first | ((with_reducible refine gate_dst (N := 1) rfl ?_); refine box_event ?hg (N := 1) ?hd (cs := #[.slice A0_0 l0_0.length c0_0, .slice A0_1 l0_1.length c0_1]) (t := 26) ?hr ?_; (case hd => rfl); (case hg => rfl); (case hr => first | (go_simp; done) | (go_simp; rfl)); intro gb409 hg w4 hbox hb; have BK409 := Aside0.mk (hbox); have GW409 := Aside0.mk ((by rw [hg]; exact (below_size (bU HB.out)) : w.heap.size ≤ gb409)); have GE409 := Aside0.mk ((by rw [hg]; exact (below_size (bU HB.out)) : w.heap.size ≤ gb409)); replace HB := Aside0.mk (below_step (bU HB.out) hb); clear hb hbox hg; have hcz5_0 : w4.cell? ⟨gb409, 0, none⟩ = some (.slice A0_0 l0_0.length c0_0) := (blk_cell BK409.out 0).trans rfl; have hcz5_1 : w4.cell? ⟨gb409, 1, none⟩ = some (.slice A0_1 l0_1.length c0_1) := (blk_cell BK409.out 1).trans rfl; have hfz5_0 := blk_frozen BK409.out 0; have hfz5_1 := blk_frozen BK409.out 1) | (go_at_call 39; (repeat rw [i64_w]); (with_reducible refine (spec_SizeOf.calls k _ _ l0_0 t410 _ ?side1 ?side2 A2.out).mono ?_); (case side1 => exact cU (Kd.C_below HR0_0.out HB.out)); (case side2 => exact HC0_0.out); rintro e w' ⟨rfl, ⟨nd, rfl⟩⟩; (try exact qU))))
  go_loopg [3] k (fun kq v3 w' => ∃ (x3_1 : Int), v3 = .int .i64 x3_1 ∧ Aside0 (spec_ArrayOk.l0 kq x3_1 l0_0 l0_1 = some r) ∧ Aside0 (kq ≤ k) ∧ Aside0 (w'.heap[gb409]? = some (.cells #[(.slice A0_0 l0_0.length c0_0), (.slice A0_1 l0_1.length c0_1)] 26 (0, 0))) ∧ Aside0 (Below w.heap.size w w'))
  case atStart => exact ⟨(0), (by first | rfl | (simp; done) | (simp [*]; done)), H', ⟨Nat.le_refl _⟩, ⟨by refine kU ?_; exact BK409.out⟩, ⟨by exact bS1 HB.out GE409.out⟩⟩
  case round =>
   clear H'
   try clear c2
   try clear p2
   try clear c3
   try clear c3b0
   try clear c3b1
   try clear hcz5_0
   try clear hcz5_1
   try clear hfz5_0
   try clear hfz5_1
   obtain ⟨x3_1, rfl, HA, HK1, BK409, HB⟩ := hrel
   cases gk with
   | zero => exact absurd HA.out (by simp [spec_ArrayOk.l0])
   | succ k1 =>
    have H := HA.out
    clear HA
    simp only [spec_ArrayOk.l0] at H
    by_cases c6 : x3_1 < (l0_1.length : Int)
    ·
     rw [if_pos c6] at H
     have c6b0 : decide (x3_1 < (l0_1.length : Int)) = true := decide_eq_true c6
     clear c6
     by_cases c7 : 0 ≤ x3_1
     ·
      rw [if_pos c7] at H
      have c7b0 : decide (0 ≤ x3_1) = true := decide_eq_true c7
      clear c7
      replace H := Option.bind_eq_some_iff.mp H
      obtain ⟨t412, A80, H⟩ := H
      replace H : (if t412 = true then (spec_ArrayOk.l0 k1 (wrap64 (x3_1 + 1)) l0_0 l0_1) else (some false)) = some r := H
      have A8 := Aside0.mk A80
      clear A80
      by_cases c9 : t412 = true
      ·
       subst c9
       have H1 : (spec_ArrayOk.l0 k1 (wrap64 (x3_1 + 1)) l0_0 l0_1) = some r := by rw [if_pos rfl] at H; exact H
       clear H
       have H := H1
       clear H1
       have H' := Aside0.mk H
       clear H
       have hcz10_0 : wr.cell? ⟨gb409, 0, none⟩ = some (.slice A0_0 l0_0.length c0_0) := (blk_cell BK409.out 0).trans rfl
       have hcz10_1 : wr.cell? ⟨gb409, 1, none⟩ = some (.slice A0_1 l0_1.length c0_1) := (blk_cell BK409.out 1).trans rfl
       have hfz10_0 := blk_frozen BK409.out 0
       have hfz10_1 := blk_frozen BK409.out 1
       have p411 : 0 ≤ (x3_1 : Int) := of_decide_eq_true (by first | (with_reducible assumption) | assumption)
       have q411 : x3_1 < (l0_1.length : Int) := of_decide_eq_true (by first | (with_reducible assumption) | assumption)
       obtain ⟨ad411, e411, hx411_0⟩ := Kd.at_int HR0_1.out x3_1 p411 q411
       cases e411
       replace hx411_0 := (HB.out.cell (World.block_lt_of_cell? w _ hx411_0)).trans hx411_0
       replace p411 := eq_true p411
       replace q411 := eq_true q411
       go_wp2_with (first | (go_at_call 40; (repeat rw [i64_w]); (with_reducible refine (spec_NumOk.calls (rd l0_1 x3_1) true _ A8.out).mono ?_); rintro e w' ⟨rfl, ⟨nd, rfl⟩⟩; (try exact qU)))
       repeat (go_quiet ((go_at_call 40; (repeat rw [i64_w]); (with_reducible refine (spec_NumOk.calls (rd l0_1 x3_1) true _ A8.out).mono ?_); rintro e w' ⟨rfl, ⟨nd, rfl⟩⟩; (try exact qU))); try go_wp2_with (first | (go_at_call 40; (repeat rw [i64_w]); (with_reducible refine (spec_NumOk.calls (rd l0_1 x3_1) true _ A8.out).mono ?_); rintro e w' ⟨rfl, ⟨nd, rfl⟩⟩; (try exact qU))))
       go_roundg k1
       case measure => have := HK1.out; omega
       case rel => exact ⟨(wrap64 (x3_1 + 1)), (by first | rfl | (simp; done) | (simp [*]; done)), H', ⟨by have := HK1.out; omega⟩, ⟨by refine kU ?_; exact BK409.out⟩, ⟨by exact bS1 HB.out GE409.out⟩⟩
      ·
       replace c9 := Bool.eq_false_iff.mpr c9
       subst c9
       have H1 : (some false) = some r := by rw [if_neg (show ¬ (false = true) by decide)] at H; exact H
       clear H
       have H := H1
       clear H1
       obtain rfl := Option.some.inj H
       have hcz11_0 : wr.cell? ⟨gb409, 0, none⟩ = some (.slice A0_0 l0_0.length c0_0) := (blk_cell BK409.out 0).trans rfl
       have hcz11_1 : wr.cell? ⟨gb409, 1, none⟩ = some (.slice A0_1 l0_1.length c0_1) := (blk_cell BK409.out 1).trans rfl
       have hfz11_0 := blk_frozen BK409.out 0
       have hfz11_1 := blk_frozen BK409.out 1
       have p411 : 0 ≤ (x3_1 : Int) := of_decide_eq_true (by first | (with_reducible assumption) | assumption)
       have q411 : x3_1 < (l0_1.length : Int) := of_decide_eq_true (by first | (with_reducible assumption) | assumption)
       obtain ⟨ad411, e411, hx411_0⟩ := Kd.at_int HR0_1.out x3_1 p411 q411
       cases e411
       replace hx411_0 := (HB.out.cell (World.block_lt_of_cell? w _ hx411_0)).trans hx411_0
       replace p411 := eq_true p411
       replace q411 := eq_true q411
       go_wp2_with (first | (go_at_call 40; (repeat rw [i64_w]); (with_reducible refine (spec_NumOk.calls (rd l0_1 x3_1) false _ A8.out).mono ?_); rintro e w' ⟨rfl, ⟨nd, rfl⟩⟩; (try exact qU)))
       repeat (go_quiet ((go_at_call 40; (repeat rw [i64_w]); (with_reducible refine (spec_NumOk.calls (rd l0_1 x3_1) false _ A8.out).mono ?_); rintro e w' ⟨rfl, ⟨nd, rfl⟩⟩; (try exact qU))); try go_wp2_with (first | (go_at_call 40; (repeat rw [i64_w]); (with_reducible refine (spec_NumOk.calls (rd l0_1 x3_1) false _ A8.out).mono ?_); rintro e w' ⟨rfl, ⟨nd, rfl⟩⟩; (try exact qU))))
       go_ret
       exact ⟨by first | rfl | (simp [errW_none, errW_some] <;> rfl) | (simp [*, errW_none, errW_some] <;> rfl), by exact bS1 HB.out GE409.out⟩
     ·
      rw [if_neg c7] at H
      exact absurd H (by simp)
    ·
     rw [if_neg c6] at H
     have c6b0 : decide (x3_1 < (l0_1.length : Int)) = false := decide_eq_false c6
     clear c6
     obtain rfl := Option.some.inj H
     have hcz12_0 : wr.cell? ⟨gb409, 0, none⟩ = some (.slice A0_0 l0_0.length c0_0) := (blk_cell BK409.out 0).trans rfl
     have hcz12_1 : wr.cell? ⟨gb409, 1, none⟩ = some (.slice A0_1 l0_1.length c0_1) := (blk_cell BK409.out 1).trans rfl
     have hfz12_0 := blk_frozen BK409.out 0
     have hfz12_1 := blk_frozen BK409.out 1
     go_wp2
     repeat (go_quiet (fail); try go_wp2)
     go_ret
     exact ⟨by first | rfl | (simp [errW_none, errW_some] <;> rfl) | (simp [*, errW_none, errW_some] <;> rfl), by exact bS1 HB.out GE409.out⟩
 ·
  rw [if_neg c3] at H
  have c3b0 : (t410 == (l0_1.length : Int)) = false := beq_eq_false_iff_ne.mpr c3
  have c3b1 : (t410 != (l0_1.length : Int)) = true := bne_iff_ne.mpr c3
  obtain rfl := Option.some.inj H
  go_enter Try.func23, Try.ntmps23
  go_wp2_with (first | ((with_reducible refine gate_dst (N := 1) rfl ?_); refine box_event ?hg (N := 1) ?hd (cs := #[.slice A0_0 l0_0.length c0_0, .slice A0_1 l0_1.length c0_1]) (t := 26) ?hr ?_; (case hd => rfl); (case hg => rfl); (case hr => first | (go_simp; done) | (go_simp; rfl)); intro gb409 hg w13 hbox hb; have BK409 := Aside0.mk (hbox); have GW409 := Aside0.mk ((by rw [hg]; exact (below_size (bU HB.out)) : w.heap.size ≤ gb409)); have GE409 := Aside0.mk ((by rw [hg]; exact (below_size (bU HB.out)) : w.heap.size ≤ gb409)); replace HB := Aside0.mk (below_step (bU HB.out) hb); clear hb hbox hg; have hcz14_0 : w13.cell? ⟨gb409, 0, none⟩ = some (.slice A0_0 l0_0.length c0_0) := (blk_cell BK409.out 0).trans rfl; have hcz14_1 : w13.cell? ⟨gb409, 1, none⟩ = some (.slice A0_1 l0_1.length c0_1) := (blk_cell BK409.out 1).trans rfl; have hfz14_0 := blk_frozen BK409.out 0; have hfz14_1 := blk_frozen BK409.out 1) | (go_at_call 39; (repeat rw [i64_w]); (with_reducible refine (spec_SizeOf.calls k _ _ l0_0 t410 _ ?side1 ?side2 A2.out).mono ?_); (case side1 => exact cU (Kd.C_below HR0_0.out HB.out)); (case side2 => exact HC0_0.out); rintro e w' ⟨rfl, ⟨nd, rfl⟩⟩; (try exact qU)))
  repeat (go_quiet ((go_at_call 39; (repeat rw [i64_w]); (with_reducible refine (spec_SizeOf.calls k _ _ l0_0 t410 _ ?side1 ?side2 A2.out).mono ?_); (case side1 => exact cU (Kd.C_below HR0_0.out HB.out)); (case side2 => exact HC0_0.out); rintro e w' ⟨rfl, ⟨nd, rfl⟩⟩; (try exact qU))); try go_wp2_with (first | ((with_reducible refine gate_dst (N := 1) rfl ?_); refine box_event ?hg (N := 1) ?hd (cs := #[.slice A0_0 l0_0.length c0_0, .slice A0_1 l0_1.length c0_1]) (t := 26) ?hr ?_; (case hd => rfl); (case hg => rfl); (case hr => first | (go_simp; done) | (go_simp; rfl)); intro gb409 hg w13 hbox hb; have BK409 := Aside0.mk (hbox); have GW409 := Aside0.mk ((by rw [hg]; exact (below_size (bU HB.out)) : w.heap.size ≤ gb409)); have GE409 := Aside0.mk ((by rw [hg]; exact (below_size (bU HB.out)) : w.heap.size ≤ gb409)); replace HB := Aside0.mk (below_step (bU HB.out) hb); clear hb hbox hg; have hcz14_0 : w13.cell? ⟨gb409, 0, none⟩ = some (.slice A0_0 l0_0.length c0_0) := (blk_cell BK409.out 0).trans rfl; have hcz14_1 : w13.cell? ⟨gb409, 1, none⟩ = some (.slice A0_1 l0_1.length c0_1) := (blk_cell BK409.out 1).trans rfl; have hfz14_0 := blk_frozen BK409.out 0; have hfz14_1 := blk_frozen BK409.out 1) | (go_at_call 39; (repeat rw [i64_w]); (with_reducible refine (spec_SizeOf.calls k _ _ l0_0 t410 _ ?side1 ?side2 A2.out).mono ?_); (case side1 => exact cU (Kd.C_below HR0_0.out HB.out)); (case side2 => exact HC0_0.out); rintro e w' ⟨rfl, ⟨nd, rfl⟩⟩; (try exact qU))))
  go_ret
  exact ⟨by first | rfl | (simp [errW_none, errW_some] <;> rfl) | (simp [*, errW_none, errW_some] <;> rfl), by exact bS1 HB.out GE409.out⟩

end Go.Proofs.Ytkjcpgjhpfocmaa.PFnTurned
