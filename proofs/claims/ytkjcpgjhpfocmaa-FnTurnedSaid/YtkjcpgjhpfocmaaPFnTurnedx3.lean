/- The walk of what a law reaches, for the law's row: written by a program of this session; it has no condition of its own. -/
import Derived.Test.YtkjcpgjhpfocmaaPFnTurnedx0
import Derived.Test.YtkjcpgjhpfocmaaQ
import Derived.Test.YtkjcpgjhpfocmaaPFnTurnedx1
import Derived.Test.YtkjcpgjhpfocmaaPFnTurnedx2
namespace Go.Proofs.Ytkjcpgjhpfocmaa.PFnTurned
open Go.RowKit Go.Proofs.YtkjcpgjhpfocmaaW.PrintWords Go.Proofs.YtkjcpgjhpfocmaaW.PrintLast Go.Proofs.YtkjcpgjhpfocmaaW.PrintMore Go.Proofs.YtkjcpgjhpfocmaaQ
attribute [local go_sem] max2_int min2_int max_two min_two max_three min_three max_four min_four   -- for this text's walks alone
set_option linter.unusedVariables false
set_option linter.unusedSimpArgs false

/-! ### spec_l3Draw: function 13 -/
def spec_l3Draw.f (k : Nat) (s0_0 : List Int) (s0_1 : Int) (s0_2 : Int) : Option (List Int × List Int × Int × Int) := (spec_l3DrawRight.f k s0_0 s0_1 s0_2).bind fun bt250 => ((spec_l1Below.f s0_0 bt250.2.2.1 bt250.2.2.2 20).bind fun bt259 => (if bt259.1 = 0 then (if bt250.2.1.length < 17592186044416 then (some (bt250.1, (bt250.2.1 ++ [1]), bt259.2.1, bt259.2.2)) else (none)) else (if bt259.1 = 1 then ((spec_l2Draw.f k s0_0 bt259.2.1 bt259.2.2).bind fun bt265 => (some (bt265.1, bt250.2.1, bt265.2.1, bt265.2.2))) else (if bt259.1 = 2 then (if (bt250.2.1.length : Int) > 0 then ((spec_l1Below.f s0_0 bt259.2.1 bt259.2.2 (bt250.2.1.length : Int)).bind fun bt270 => ((spec_l1DrawRaw.f s0_0 bt270.2.1 bt270.2.2).bind fun bt273 => (if 0 ≤ bt270.1 then (if bt270.1 < (bt250.2.1.length : Int) then (some (bt250.1, (bt250.2.1.set (bt270.1 : Int).toNat bt273.1), bt273.2.1, bt273.2.2)) else (none)) else (none)))) else (some (bt250.1, bt250.2.1, bt259.2.1, bt259.2.2))) else (if bt259.1 = 3 then ((spec_l1Below.f s0_0 bt259.2.1 bt259.2.2 2).bind fun bt280 => (if 0 ≤ (wrap64 (300 + bt280.1)) then (if (wrap64 (300 + bt280.1) : Int).toNat ≤ 35184372088832 then (some ((([300] : List Int)), (List.replicate (wrap64 (300 + bt280.1) : Int).toNat 0), bt280.2.1, bt280.2.2)) else (none)) else (none))) else (some (bt250.1, bt250.2.1, bt259.2.1, bt259.2.2)))))))
def spec_l3Draw.T9 : Bool × List (List Nat × List Nat) := (true, [([], []), ([0], [0]), ([], []), ([], []), ([3], [3]), ([4], [4]), ([2, 5], [2, 5]), ([], []), ([7, 6], [7]), ([1, 6, 0, 1, 2, 3, 4, 5, 6, 7, 8], [1, 6]), ([9, 8, 8, 0, 1, 2, 3, 4, 5, 6, 7, 8], [8, 9])])
def spec_l3Draw.B9 : List Nat := [0, 1, 0, 0, 8, 24, 60, 0, 252, 511, 1023]
theorem spec_l3Draw.tab9 : rtab .any (opsOf Try.f13 9) = spec_l3Draw.T9 := by kernel_rfl
theorem spec_l3Draw.bits9 : waitsOk spec_l3Draw.T9.2 spec_l3Draw.B9 = true := by kernel_rfl
set_option maxHeartbeats 8000000 in
set_option maxRecDepth 100000 in
theorem spec_l3Draw.calls (k : Nat) (g : Nat) (s0_0 : List Int) (s0_1 : Int) (s0_2 : Int) (r1 : List Int) (r2 : List Int) (r3 : Int) (r4 : Int) (w0 w : World) (hI : IsS56 w0 w g s0_0 s0_1 s0_2) (hB : Below w0.heap.size w0 w) (h : spec_l3Draw.f k s0_0 s0_1 s0_2 = some (r1, r2, r3, r4)) :
  Calls Try.prog 13 #[.pointer (some ⟨g, 0, none⟩)] w fun e w' => ∃ v0_ v1_ : Value, e = .returned (.agg #[v0_, v1_]) ∧ Kd.R (Kd.int .i64) 3 w' w.heap.size (fun k_ => some k_ ≠ (v1_ : Value).ownBlock) v0_ r1 ∧ Kd.R (Kd.int .i64) 3 w' w.heap.size (fun k_ => some k_ ≠ (v0_ : Value).ownBlock) v1_ r2 ∧ IsS56 w0 w' g s0_0 r3 r4 ∧ Below w0.heap.size w0 w' ∧ KeepBut w w' g none := by
 have hu26 := Try.underlying26
 have HI0 := Aside0.mk hI
 have HK := Aside0.mk (KeepBut.refl w g none)
 have HL := Aside0.mk hB.size
 clear hI
 have HW0 := Aside0.mk hB.size
 have HB := Aside0.mk hB
 clear hB
 have H : ((spec_l3DrawRight.f k s0_0 s0_1 s0_2).bind fun bt250 => ((spec_l1Below.f s0_0 bt250.2.2.1 bt250.2.2.2 20).bind fun bt259 => (if bt259.1 = 0 then (if bt250.2.1.length < 17592186044416 then (some (bt250.1, (bt250.2.1 ++ [1]), bt259.2.1, bt259.2.2)) else (none)) else (if bt259.1 = 1 then ((spec_l2Draw.f k s0_0 bt259.2.1 bt259.2.2).bind fun bt265 => (some (bt265.1, bt250.2.1, bt265.2.1, bt265.2.2))) else (if bt259.1 = 2 then (if (bt250.2.1.length : Int) > 0 then ((spec_l1Below.f s0_0 bt259.2.1 bt259.2.2 (bt250.2.1.length : Int)).bind fun bt270 => ((spec_l1DrawRaw.f s0_0 bt270.2.1 bt270.2.2).bind fun bt273 => (if 0 ≤ bt270.1 then (if bt270.1 < (bt250.2.1.length : Int) then (some (bt250.1, (bt250.2.1.set (bt270.1 : Int).toNat bt273.1), bt273.2.1, bt273.2.2)) else (none)) else (none)))) else (some (bt250.1, bt250.2.1, bt259.2.1, bt259.2.2))) else (if bt259.1 = 3 then ((spec_l1Below.f s0_0 bt259.2.1 bt259.2.2 2).bind fun bt280 => (if 0 ≤ (wrap64 (300 + bt280.1)) then (if (wrap64 (300 + bt280.1) : Int).toNat ≤ 35184372088832 then (some ((([300] : List Int)), (List.replicate (wrap64 (300 + bt280.1) : Int).toNat 0), bt280.2.1, bt280.2.2)) else (none)) else (none))) else (some (bt250.1, bt250.2.1, bt259.2.1, bt259.2.2)))))))) = some (r1, r2, r3, r4) := h
 clear h
 replace H := Option.bind_eq_some_iff.mp H
 obtain ⟨⟨t250, t253, t256, t257⟩, A20, H⟩ := H
 replace H : ((spec_l1Below.f s0_0 t256 t257 20).bind fun bt259 => (if bt259.1 = 0 then (if t253.length < 17592186044416 then (some (t250, (t253 ++ [1]), bt259.2.1, bt259.2.2)) else (none)) else (if bt259.1 = 1 then ((spec_l2Draw.f k s0_0 bt259.2.1 bt259.2.2).bind fun bt265 => (some (bt265.1, t253, bt265.2.1, bt265.2.2))) else (if bt259.1 = 2 then (if (t253.length : Int) > 0 then ((spec_l1Below.f s0_0 bt259.2.1 bt259.2.2 (t253.length : Int)).bind fun bt270 => ((spec_l1DrawRaw.f s0_0 bt270.2.1 bt270.2.2).bind fun bt273 => (if 0 ≤ bt270.1 then (if bt270.1 < (t253.length : Int) then (some (t250, (t253.set (bt270.1 : Int).toNat bt273.1), bt273.2.1, bt273.2.2)) else (none)) else (none)))) else (some (t250, t253, bt259.2.1, bt259.2.2))) else (if bt259.1 = 3 then ((spec_l1Below.f s0_0 bt259.2.1 bt259.2.2 2).bind fun bt280 => (if 0 ≤ (wrap64 (300 + bt280.1)) then (if (wrap64 (300 + bt280.1) : Int).toNat ≤ 35184372088832 then (some ((([300] : List Int)), (List.replicate (wrap64 (300 + bt280.1) : Int).toNat 0), bt280.2.1, bt280.2.2)) else (none)) else (none))) else (some (t250, t253, bt259.2.1, bt259.2.2))))))) = some (r1, r2, r3, r4) := H
 have A2 := Aside0.mk A20
 clear A20
 replace H := Option.bind_eq_some_iff.mp H
 obtain ⟨⟨t259, t260, t261⟩, A30, H⟩ := H
 replace H : (if t259 = 0 then (if t253.length < 17592186044416 then (some (t250, (t253 ++ [1]), t260, t261)) else (none)) else (if t259 = 1 then ((spec_l2Draw.f k s0_0 t260 t261).bind fun bt265 => (some (bt265.1, t253, bt265.2.1, bt265.2.2))) else (if t259 = 2 then (if (t253.length : Int) > 0 then ((spec_l1Below.f s0_0 t260 t261 (t253.length : Int)).bind fun bt270 => ((spec_l1DrawRaw.f s0_0 bt270.2.1 bt270.2.2).bind fun bt273 => (if 0 ≤ bt270.1 then (if bt270.1 < (t253.length : Int) then (some (t250, (t253.set (bt270.1 : Int).toNat bt273.1), bt273.2.1, bt273.2.2)) else (none)) else (none)))) else (some (t250, t253, t260, t261))) else (if t259 = 3 then ((spec_l1Below.f s0_0 t260 t261 2).bind fun bt280 => (if 0 ≤ (wrap64 (300 + bt280.1)) then (if (wrap64 (300 + bt280.1) : Int).toNat ≤ 35184372088832 then (some ((([300] : List Int)), (List.replicate (wrap64 (300 + bt280.1) : Int).toNat 0), bt280.2.1, bt280.2.2)) else (none)) else (none))) else (some (t250, t253, t260, t261)))))) = some (r1, r2, r3, r4) := H
 have A3 := Aside0.mk A30
 clear A30
 by_cases c4 : t259 = 0
 ·
  rw [if_pos c4] at H
  have c4b0 : (t259 == 0) = true := beq_iff_eq.mpr c4
  have c4b1 : (t259 != 0) = false := bne_eq_false_iff_eq.mpr c4
  clear c4
  by_cases c5 : t253.length < 17592186044416
  ·
   rw [if_pos c5] at H
   have LMc5 := Aside0.mk c5
   clear c5
   obtain ⟨y262, hy262⟩ : ∃ y_ : List Int, y_ = (t253 ++ [1]) := ⟨_, rfl⟩
   replace H : (some (t250, y262, t260, t261)) = some (r1, r2, r3, r4) := by first | (rw [hy262]; with_reducible exact H) | (have H2_ := (Option.bind_some _ _).symm.trans H; rw [hy262]; with_reducible exact H2_) | (have H2_ := (Option.bind_some _ _).symm.trans H; with_reducible exact H2_) | with_reducible exact H | (rw [hy262]; exact H) | exact H
   have Ny262 := Aside0.mk hy262
   clear hy262
   simp only [Option.some.injEq, Prod.mk.injEq] at H
   obtain ⟨rfl, rfl, rfl, rfl⟩ := H
   go_enter Try.func13, Try.ntmps13
   go_wp2_with (first | ((with_reducible refine gate_dst (N := 2) rfl ?_); refine box_event ?hg (N := 2) ?hd (cs := #[.slice none 0 0, .slice none 0 0]) (t := 26) ?hr ?_; (case hd => rfl); (case hg => rfl); (case hr => first | (go_simp; done) | (go_simp; rfl)); intro gb249 hg w6 hbox hb; replace HB := Aside0.mk (below_step (by repeat (first | (with_reducible first | exact HB.out | apply below_alloc | apply pw_below_drewN | apply below_drew1 | refine below_set ?_ (IsS56.ge HI0.out)) | exact HB.out)) hb); have BK249 := Aside0.mk (hbox); have GW249 := Aside0.mk ((by rw [hg]; exact (keep_size (w := w) (g := g) (row := none) (hU HK.out)) : w.heap.size ≤ gb249)); have GE249 := Aside0.mk ((Nat.le_trans HW0.out (by rw [hg]; exact (keep_size (w := w) (g := g) (row := none) (hU HK.out)) : w.heap.size ≤ gb249) : w0.heap.size ≤ gb249)); replace HK := Aside0.mk (KeepBut.trans (hU HK.out) (KeepBut.of_below hb g none) (.inl rfl)); have NB0_249 := Aside0.mk ((by rw [hg]; exact Nat.ne_of_lt (IsS56.lt (show IsS56 w0 _ g s0_0 s0_1 s0_2 from by exact iU0 HI0.out)) : g ≠ gb249)); have NB249_0 := Aside0.mk ((by rw [hg]; exact Nat.ne_of_gt (IsS56.lt (show IsS56 w0 _ g s0_0 s0_1 s0_2 from by exact iU0 HI0.out)) : gb249 ≠ g)); replace HI0 := Aside0.mk (IsS56.below (iU0 HI0.out) hb); clear hb hbox hg) | ((with_reducible refine gate_callee (f := 30) rfl ?_); refine goesL_ (some 5) rfl rfl Try.func30 (by kernel_rfl) rfl #[.pointer (some ⟨g, 0, none⟩)] rfl lU ?_; (with_reducible refine (spec_l3DrawRight.calls k g s0_0 s0_1 s0_2 t250 t253 t256 t257 w0 _ ?side1 ?side2 A2.out).mono ?_); (case side1 => repeat (first | (with_reducible first | exact HI0.out | apply IsS56.alloc | apply IsS56.drewN | apply IsS56.drew | apply IsS56.set_1 | apply IsS56.set_2 | refine IsS56.far ?_ NB0_249.out _) | exact HI0.out)); (case side2 => repeat (first | (with_reducible first | exact HB.out | apply below_alloc | apply pw_below_drewN | apply below_drew1 | refine below_set ?_ (IsS56.ge HI0.out) | refine below_set ?_ GE249.out) | exact HB.out)); rintro e w7 ⟨v251, v254, rfl, ho0, ho1, hi, hb, hk⟩; refine ⟨_, rfl, ?_⟩; replace BK249 := Aside0.mk (KeepBut.blk hk (g' := gb249) (o := .cells #[.slice none 0 0, .slice none 0 0] 26 (0, 0)) (kU BK249.out) NB249_0.out (by simp)); have HO252 := Aside0.mk (Kd.R_lower ho0 (keep_size (w := w) (g := g) (row := none) (by repeat (first | (with_reducible first | exact HK.out | apply KeepBut.set_ | apply keep_drewN | apply keep_drew | apply keep_alloc | refine keep_far ?_ GW249.out _) | exact HK.out)))); have HO255 := Aside0.mk (Kd.R_lower ho1 (keep_size (w := w) (g := g) (row := none) (by repeat (first | (with_reducible first | exact HK.out | apply KeepBut.set_ | apply keep_drewN | apply keep_drew | apply keep_alloc | refine keep_far ?_ GW249.out _) | exact HK.out)))); replace HK := Aside0.mk (KeepBut.trans (by repeat (first | (with_reducible first | exact HK.out | apply KeepBut.set_ | apply keep_drewN | apply keep_drew | apply keep_alloc | refine keep_far ?_ GW249.out _) | exact HK.out)) hk (.inl rfl)); replace HB := Aside0.mk (hb); replace HI0 := Aside0.mk (hi); (try clear hb); (try clear hb2); (try clear hk); (try clear hi); (try clear ho0); (try clear ho1)) | ((with_reducible refine gate_dst (N := 3) rfl ?_); refine box_event ?hg (N := 3) ?hd (cs := #[.slice none 0 0, .slice none 0 0]) (t := 26) ?hr ?_; (case hd => rfl); (case hg => rfl); (case hr => first | (go_simp; done) | (go_simp; rfl)); intro gb258 hg w8 hbox hb; replace HO252 := Aside0.mk (Kd.R_below (RU HO252.out) hb); replace HO255 := Aside0.mk (Kd.R_below (RU HO255.out) hb); replace HB := Aside0.mk (below_step (by repeat (first | (with_reducible first | exact HB.out | apply below_alloc | apply pw_below_drewN | apply below_drew1 | refine below_set ?_ (IsS56.ge HI0.out) | refine below_set ?_ GE249.out) | exact HB.out)) hb); have BK258 := Aside0.mk (hbox); have GW258 := Aside0.mk ((by rw [hg]; exact (keep_size (w := w) (g := g) (row := none) (by repeat (first | (with_reducible first | exact HK.out | apply KeepBut.set_ | apply keep_drewN | apply keep_drew | apply keep_alloc | refine keep_far ?_ GW249.out _) | exact HK.out))) : w.heap.size ≤ gb258)); have GE258 := Aside0.mk ((Nat.le_trans HW0.out (by rw [hg]; exact (keep_size (w := w) (g := g) (row := none) (by repeat (first | (with_reducible first | exact HK.out | apply KeepBut.set_ | apply keep_drewN | apply keep_drew | apply keep_alloc | refine keep_far ?_ GW249.out _) | exact HK.out))) : w.heap.size ≤ gb258) : w0.heap.size ≤ gb258)); replace HK := Aside0.mk (KeepBut.trans (by repeat (first | (with_reducible first | exact HK.out | apply KeepBut.set_ | apply keep_drewN | apply keep_drew | apply keep_alloc | refine keep_far ?_ GW249.out _) | exact HK.out)) (KeepBut.of_below hb g none) (.inl rfl)); have NB249_258 := Aside0.mk (kN BK249.out hg); have NB258_249 := Aside0.mk (kM BK249.out hg); replace BK249 := Aside0.mk (kB BK249.out hb); have NB0_258 := Aside0.mk ((by rw [hg]; exact Nat.ne_of_lt (IsS56.lt (show IsS56 w0 _ g s0_0 t256 t257 from by repeat (first | (with_reducible first | exact HI0.out | apply IsS56.alloc | apply IsS56.drewN | apply IsS56.drew | apply IsS56.set_1 | apply IsS56.set_2 | refine IsS56.far ?_ NB0_249.out _) | exact HI0.out))) : g ≠ gb258)); have NB258_0 := Aside0.mk ((by rw [hg]; exact Nat.ne_of_gt (IsS56.lt (show IsS56 w0 _ g s0_0 t256 t257 from by repeat (first | (with_reducible first | exact HI0.out | apply IsS56.alloc | apply IsS56.drewN | apply IsS56.drew | apply IsS56.set_1 | apply IsS56.set_2 | refine IsS56.far ?_ NB0_249.out _) | exact HI0.out))) : gb258 ≠ g)); replace HI0 := Aside0.mk (IsS56.below (by repeat (first | (with_reducible first | exact HI0.out | apply IsS56.alloc | apply IsS56.drewN | apply IsS56.drew | apply IsS56.set_1 | apply IsS56.set_2 | refine IsS56.far ?_ NB0_249.out _) | exact HI0.out)) hb); clear hb hbox hg; obtain ⟨Ao9, co9, eo9⟩ := Kd.R_slice HO252.out; subst eo9; have hnb10 := NB258_249.out; have hnc10 := NB249_258.out; have hnb11 := NB258_0.out; have hnc11 := NB0_258.out; have hcz12_0 : w8.cell? ⟨gb258, 0, none⟩ = some (.slice none 0 0) := (blk_cell BK258.out 0).trans rfl; have hcz12_1 : w8.cell? ⟨gb258, 1, none⟩ = some (.slice none 0 0) := (blk_cell BK258.out 1).trans rfl; have hfz12_0 := blk_frozen BK258.out 0; have hfz12_1 := blk_frozen BK258.out 1; obtain ⟨Ao13, co13, eo13⟩ := Kd.R_slice HO255.out; subst eo13) | ((with_reducible refine gate_callee (f := 31) rfl ?_); refine goesL_ (some 7) rfl rfl Try.func31 (by kernel_rfl) rfl #[.pointer (some ⟨g, 0, none⟩), .int .i64 20] rfl lU ?_; (with_reducible refine (spec_l1Below.calls g s0_0 t256 t257 20 t259 t260 t261 w0 _ ?side1 ?side2 A3.out).mono ?_); (case side1 => repeat (first | (with_reducible first | exact HI0.out | apply IsS56.alloc | apply IsS56.drewN | apply IsS56.drew | apply IsS56.set_1 | apply IsS56.set_2 | refine IsS56.far ?_ NB0_249.out _ | refine IsS56.far ?_ NB0_258.out _) | exact HI0.out)); (case side2 => repeat (first | (with_reducible first | exact HB.out | apply below_alloc | apply pw_below_drewN | apply below_drew1 | refine below_set ?_ (IsS56.ge HI0.out) | refine below_set ?_ GE249.out | refine below_set ?_ GE258.out) | exact HB.out)); rintro e w14 ⟨rfl, hi, hb, hk⟩; refine ⟨_, rfl, ?_⟩; replace BK249 := Aside0.mk (KeepBut.blk hk (g' := gb249) (o := .cells #[.slice none 0 0, .slice none 0 0] 26 (0, 0)) (by refine kU ?_; refine blk_far ?_ NB249_258.out _; refine kU ?_; refine blk_far ?_ NB249_258.out _; refine kU ?_; exact BK249.out) NB249_0.out (by simp)); replace HO252 := Aside0.mk (Kd.R_mono (Kd.R_keep (IsS56.apart (show IsS56 w0 _ g s0_0 t256 t257 from by repeat (first | (with_reducible first | exact HI0.out | apply IsS56.alloc | apply IsS56.drewN | apply IsS56.drew | apply IsS56.set_1 | apply IsS56.set_2 | refine IsS56.far ?_ NB0_249.out _ | refine IsS56.far ?_ NB0_258.out _) | exact HI0.out)) (by refine RU ?_; exact (far2 HO252.out BK258.out)) (by decide)) hk (fun _ h => h.2)) (fun _ h => h.1)); replace HO255 := Aside0.mk (Kd.R_mono (Kd.R_keep (IsS56.apart (show IsS56 w0 _ g s0_0 t256 t257 from by repeat (first | (with_reducible first | exact HI0.out | apply IsS56.alloc | apply IsS56.drewN | apply IsS56.drew | apply IsS56.set_1 | apply IsS56.set_2 | refine IsS56.far ?_ NB0_249.out _ | refine IsS56.far ?_ NB0_258.out _) | exact HI0.out)) (by refine RU ?_; exact (far2 HO255.out BK258.out)) (by decide)) hk (fun _ h => h.2)) (fun _ h => h.1)); replace BK258 := Aside0.mk (KeepBut.blk hk (g' := gb258) (o := .cells #[.slice Ao9 t250.length co9, .slice Ao13 t253.length co13] 26 (0, 0)) (by refine kU ?_; refine blk_put (cs := #[.slice Ao9 t250.length co9, .slice none 0 0]) ?_ 1 _ rfl; refine kU ?_; refine blk_put (cs := #[.slice none 0 0, .slice none 0 0]) ?_ 0 _ rfl; refine kU ?_; exact BK258.out) NB258_0.out (by simp)); replace HK := Aside0.mk (KeepBut.trans (by repeat (first | (with_reducible first | exact HK.out | apply KeepBut.set_ | apply keep_drewN | apply keep_drew | apply keep_alloc | refine keep_far ?_ GW249.out _ | refine keep_far ?_ GW258.out _) | exact HK.out)) hk (.inl rfl)); replace HB := Aside0.mk (hb); replace HI0 := Aside0.mk (hi); (try clear hb); (try clear hb2); (try clear hk); (try clear hi); have hcz15_0 : w14.cell? ⟨gb258, 0, none⟩ = some (.slice Ao9 t250.length co9) := (blk_cell BK258.out 0).trans rfl; have hcz15_1 : w14.cell? ⟨gb258, 1, none⟩ = some (.slice Ao13 t253.length co13) := (blk_cell BK258.out 1).trans rfl; have hfz15_0 := blk_frozen BK258.out 0; have hfz15_1 := blk_frozen BK258.out 1) | ((with_reducible refine gate_builtin (b := .append) (xs := #[.tmp 11, .tmp 12]) rfl ?_); at_builtin; refine Kd.R_append (Kd.int .i64) w.heap.size rfl (.tmp 11) (.tmp 12) 24 3 (.int .i64 0) 8 rfl Try.underlying24 info3 rfl (by decide) (by omega) (.slice Ao13 t253.length co13) t253 1 [.int .i64 1] (fun k_ => some k_ ≠ (.slice Ao9 t250.length co9 : Value).ownBlock) (fun _ => False) rfl rfl ?aP (fun _ hk => hk.elim) ?aF ?aO (Below.refl _ _) ?aS ?aL ?_; (case aP => exact rfl); (case aF => exact (fun k_ hk => Kd.fresh' (Kd.R_lt (RU HO252.out)) k_ hk)); (case aO => exact (RU HO255.out)); (case aS => exact (keep_size (w := w) (g := g) (row := none) (by repeat (first | (with_reducible first | exact HK.out | apply KeepBut.set_ | apply keep_drewN | apply keep_drew | apply keep_alloc | refine keep_far ?_ GW249.out _ | refine keep_far ?_ GW258.out _) | exact HK.out)))); (case aL => have := LMc5.out; omega); intro v263 w16 ho hb hg hat; rw [← Ny262.out] at ho; have n0_ := Aside0.mk (IsS56.grown (by repeat (first | (with_reducible first | exact HI0.out | apply IsS56.alloc | apply IsS56.drewN | apply IsS56.drew | apply IsS56.set_1 | apply IsS56.set_2 | refine IsS56.far ?_ NB0_249.out _ | refine IsS56.far ?_ NB0_258.out _) | exact HI0.out)) hg (IsS56.own_ne HI0.out HO255.out (by decide))); have n1_ := Aside0.mk (blk_grown (g := gb249) (o := .cells #[.slice none 0 0, .slice none 0 0] 26 (0, 0)) (kU BK249.out) hg (Kd.R_ne HO255.out BK249.out (by decide))); have n2_ := Aside0.mk (Kd.R_after (ok := (fun _ => True)) (by refine RU ?_; exact Kd.R_mono HO252.out (fun _ hk => ⟨trivial, hk⟩)) hg hat); have n3_ := Aside0.mk (blk_grown (g := gb258) (o := .cells #[.slice Ao9 t250.length co9, .slice Ao13 t253.length co13] 26 (0, 0)) (kU BK258.out) hg (Kd.R_ne HO255.out BK258.out (by decide))); have n4_ := Aside0.mk (below_weaken (by repeat (first | (with_reducible first | exact HB.out | apply below_alloc | apply pw_below_drewN | apply below_drew1 | refine below_set ?_ (IsS56.ge HI0.out) | refine below_set ?_ GE249.out | refine below_set ?_ GE258.out) | exact HB.out)) HL.out hb); have n5_ := Aside0.mk (KeepBut.trans (by repeat (first | (with_reducible first | exact HK.out | apply KeepBut.set_ | apply keep_drewN | apply keep_drew | apply keep_alloc | refine keep_far ?_ GW249.out _ | refine keep_far ?_ GW258.out _) | exact HK.out)) (KeepBut.of_grown hg g) (Kd.R_base2 HO255.out)); have n6_ := Aside0.mk (ho); clear HI0; clear BK249; clear HO252; clear BK258; clear HB; clear HK; clear HO255; have HI0 := n0_; have BK249 := n1_; have HO252 := n2_; have BK258 := n3_; have HB := n4_; have HK := n5_; have HO264 := n6_; clear n0_ n1_ n2_ n3_ n4_ n5_ n6_; clear ho hb hg hat; obtain ⟨Ao17, co17, eo17⟩ := Kd.R_slice HO264.out; subst eo17; have hcz18_0 : w16.cell? ⟨gb258, 0, none⟩ = some (.slice Ao9 t250.length co9) := (blk_cell BK258.out 0).trans rfl; have hcz18_1 : w16.cell? ⟨gb258, 1, none⟩ = some (.slice Ao13 t253.length co13) := (blk_cell BK258.out 1).trans rfl; have hfz18_0 := blk_frozen BK258.out 0; have hfz18_1 := blk_frozen BK258.out 1; have hnb19 := NB249_0.out; have hnc19 := NB0_249.out; have hcz20_0 : w16.cell? ⟨gb249, 0, none⟩ = some (.slice none 0 0) := (blk_cell BK249.out 0).trans rfl; have hcz20_1 : w16.cell? ⟨gb249, 1, none⟩ = some (.slice none 0 0) := (blk_cell BK249.out 1).trans rfl; have hfz20_0 := blk_frozen BK249.out 0; have hfz20_1 := blk_frozen BK249.out 1))
   refine bodyPost_ret (results_cell_row rfl _ _ gb249 26 #[.slice Ao9 t250.length co9, .slice Ao17 y262.length co17] (0, 0) _ rfl (by refine kU ?_; refine blk_put (cs := #[.slice Ao9 t250.length co9, .slice none 0 0]) ?_ 1 _ rfl; refine kU ?_; refine blk_put (cs := #[.slice none 0 0, .slice none 0 0]) ?_ 0 _ rfl; refine kU ?_; refine blk_far ?_ NB249_258.out _; refine kU ?_; exact BK249.out) Try.underlying26 rfl (by kernel_rfl)) rfl ?_
   exact ⟨_, _, by first | rfl | (simp [errW_none, errW_some] <;> rfl) | (simp [*, errW_none, errW_some] <;> rfl), by refine RU ?_; exact Kd.R_mono (Kd.R_far (p := ⟨gb249, 1, none⟩) (Kd.R_far (p := ⟨gb249, 0, none⟩) (Kd.R_far (p := ⟨gb258, 1, none⟩) (Kd.R_types (Kd.R_types HO252.out BK258.out (by decide)) BK249.out (by decide)) (fun _ hk => hk.1.2) (.slice Ao17 y262.length co17)) (fun _ hk => hk.2) (.slice Ao9 t250.length co9)) (fun _ hk => hk.2) (.slice Ao17 y262.length co17)) (fun _ hk => hk.1.1.2), by refine RU ?_; exact Kd.R_mono (Kd.R_far (p := ⟨gb249, 1, none⟩) (Kd.R_far (p := ⟨gb249, 0, none⟩) (Kd.R_far (p := ⟨gb258, 1, none⟩) (Kd.R_types (Kd.R_types HO264.out BK258.out (by decide)) BK249.out (by decide)) (fun _ hk => hk.1.2) (.slice Ao17 y262.length co17)) (fun _ hk => hk.2) (.slice Ao9 t250.length co9)) (fun _ hk => hk.2) (.slice Ao17 y262.length co17)) (fun _ hk => hk.1.1), by repeat (first | (with_reducible first | exact HI0.out | apply IsS56.alloc | apply IsS56.drewN | apply IsS56.drew | apply IsS56.set_1 | apply IsS56.set_2 | refine IsS56.far ?_ NB0_249.out _ | refine IsS56.far ?_ NB0_258.out _) | exact HI0.out), by repeat (first | (with_reducible first | exact HB.out | apply below_alloc | apply pw_below_drewN | apply below_drew1 | refine below_set ?_ (IsS56.ge HI0.out) | refine below_set ?_ GE249.out | refine below_set ?_ GE258.out) | exact HB.out), by repeat (first | (with_reducible first | exact HK.out | apply KeepBut.set_ | apply keep_drewN | apply keep_drew | apply keep_alloc | refine keep_far ?_ GW249.out _ | refine keep_far ?_ GW258.out _) | exact HK.out)⟩
  ·
   rw [if_neg c5] at H
   exact absurd H (by simp)
 ·
  rw [if_neg c4] at H
  have c4b0 : (t259 == 0) = false := beq_eq_false_iff_ne.mpr c4
  have c4b1 : (t259 != 0) = true := bne_iff_ne.mpr c4
  by_cases c21 : t259 = 1
  ·
   rw [if_pos c21] at H
   have c21b0 : (t259 == 1) = true := beq_iff_eq.mpr c21
   have c21b1 : (t259 != 1) = false := bne_eq_false_iff_eq.mpr c21
   clear c21
   replace H := Option.bind_eq_some_iff.mp H
   obtain ⟨⟨t265, t268, t269⟩, A220, H⟩ := H
   replace H : (some (t265, t253, t268, t269)) = some (r1, r2, r3, r4) := H
   have A22 := Aside0.mk A220
   clear A220
   simp only [Option.some.injEq, Prod.mk.injEq] at H
   obtain ⟨rfl, rfl, rfl, rfl⟩ := H
   go_enter Try.func13, Try.ntmps13
   go_wp2_with (first | ((with_reducible refine gate_dst (N := 2) rfl ?_); refine box_event ?hg (N := 2) ?hd (cs := #[.slice none 0 0, .slice none 0 0]) (t := 26) ?hr ?_; (case hd => rfl); (case hg => rfl); (case hr => first | (go_simp; done) | (go_simp; rfl)); intro gb249 hg w23 hbox hb; replace HB := Aside0.mk (below_step (by repeat (first | (with_reducible first | exact HB.out | apply below_alloc | apply pw_below_drewN | apply below_drew1 | refine below_set ?_ (IsS56.ge HI0.out)) | exact HB.out)) hb); have BK249 := Aside0.mk (hbox); have GW249 := Aside0.mk ((by rw [hg]; exact (keep_size (w := w) (g := g) (row := none) (hU HK.out)) : w.heap.size ≤ gb249)); have GE249 := Aside0.mk ((Nat.le_trans HW0.out (by rw [hg]; exact (keep_size (w := w) (g := g) (row := none) (hU HK.out)) : w.heap.size ≤ gb249) : w0.heap.size ≤ gb249)); replace HK := Aside0.mk (KeepBut.trans (hU HK.out) (KeepBut.of_below hb g none) (.inl rfl)); have NB0_249 := Aside0.mk ((by rw [hg]; exact Nat.ne_of_lt (IsS56.lt (show IsS56 w0 _ g s0_0 s0_1 s0_2 from by exact iU0 HI0.out)) : g ≠ gb249)); have NB249_0 := Aside0.mk ((by rw [hg]; exact Nat.ne_of_gt (IsS56.lt (show IsS56 w0 _ g s0_0 s0_1 s0_2 from by exact iU0 HI0.out)) : gb249 ≠ g)); replace HI0 := Aside0.mk (IsS56.below (iU0 HI0.out) hb); clear hb hbox hg) | ((with_reducible refine gate_callee (f := 30) rfl ?_); refine goesL_ (some 5) rfl rfl Try.func30 (by kernel_rfl) rfl #[.pointer (some ⟨g, 0, none⟩)] rfl lU ?_; (with_reducible refine (spec_l3DrawRight.calls k g s0_0 s0_1 s0_2 t250 t253 t256 t257 w0 _ ?side1 ?side2 A2.out).mono ?_); (case side1 => repeat (first | (with_reducible first | exact HI0.out | apply IsS56.alloc | apply IsS56.drewN | apply IsS56.drew | apply IsS56.set_1 | apply IsS56.set_2 | refine IsS56.far ?_ NB0_249.out _) | exact HI0.out)); (case side2 => repeat (first | (with_reducible first | exact HB.out | apply below_alloc | apply pw_below_drewN | apply below_drew1 | refine below_set ?_ (IsS56.ge HI0.out) | refine below_set ?_ GE249.out) | exact HB.out)); rintro e w24 ⟨v251, v254, rfl, ho0, ho1, hi, hb, hk⟩; refine ⟨_, rfl, ?_⟩; replace BK249 := Aside0.mk (KeepBut.blk hk (g' := gb249) (o := .cells #[.slice none 0 0, .slice none 0 0] 26 (0, 0)) (kU BK249.out) NB249_0.out (by simp)); have HO252 := Aside0.mk (Kd.R_lower ho0 (keep_size (w := w) (g := g) (row := none) (by repeat (first | (with_reducible first | exact HK.out | apply KeepBut.set_ | apply keep_drewN | apply keep_drew | apply keep_alloc | refine keep_far ?_ GW249.out _) | exact HK.out)))); have HO255 := Aside0.mk (Kd.R_lower ho1 (keep_size (w := w) (g := g) (row := none) (by repeat (first | (with_reducible first | exact HK.out | apply KeepBut.set_ | apply keep_drewN | apply keep_drew | apply keep_alloc | refine keep_far ?_ GW249.out _) | exact HK.out)))); replace HK := Aside0.mk (KeepBut.trans (by repeat (first | (with_reducible first | exact HK.out | apply KeepBut.set_ | apply keep_drewN | apply keep_drew | apply keep_alloc | refine keep_far ?_ GW249.out _) | exact HK.out)) hk (.inl rfl)); replace HB := Aside0.mk (hb); replace HI0 := Aside0.mk (hi); (try clear hb); (try clear hb2); (try clear hk); (try clear hi); (try clear ho0); (try clear ho1)) | ((with_reducible refine gate_dst (N := 3) rfl ?_); refine box_event ?hg (N := 3) ?hd (cs := #[.slice none 0 0, .slice none 0 0]) (t := 26) ?hr ?_; (case hd => rfl); (case hg => rfl); (case hr => first | (go_simp; done) | (go_simp; rfl)); intro gb258 hg w25 hbox hb; replace HO252 := Aside0.mk (Kd.R_below (RU HO252.out) hb); replace HO255 := Aside0.mk (Kd.R_below (RU HO255.out) hb); replace HB := Aside0.mk (below_step (by repeat (first | (with_reducible first | exact HB.out | apply below_alloc | apply pw_below_drewN | apply below_drew1 | refine below_set ?_ (IsS56.ge HI0.out) | refine below_set ?_ GE249.out) | exact HB.out)) hb); have BK258 := Aside0.mk (hbox); have GW258 := Aside0.mk ((by rw [hg]; exact (keep_size (w := w) (g := g) (row := none) (by repeat (first | (with_reducible first | exact HK.out | apply KeepBut.set_ | apply keep_drewN | apply keep_drew | apply keep_alloc | refine keep_far ?_ GW249.out _) | exact HK.out))) : w.heap.size ≤ gb258)); have GE258 := Aside0.mk ((Nat.le_trans HW0.out (by rw [hg]; exact (keep_size (w := w) (g := g) (row := none) (by repeat (first | (with_reducible first | exact HK.out | apply KeepBut.set_ | apply keep_drewN | apply keep_drew | apply keep_alloc | refine keep_far ?_ GW249.out _) | exact HK.out))) : w.heap.size ≤ gb258) : w0.heap.size ≤ gb258)); replace HK := Aside0.mk (KeepBut.trans (by repeat (first | (with_reducible first | exact HK.out | apply KeepBut.set_ | apply keep_drewN | apply keep_drew | apply keep_alloc | refine keep_far ?_ GW249.out _) | exact HK.out)) (KeepBut.of_below hb g none) (.inl rfl)); have NB249_258 := Aside0.mk (kN BK249.out hg); have NB258_249 := Aside0.mk (kM BK249.out hg); replace BK249 := Aside0.mk (kB BK249.out hb); have NB0_258 := Aside0.mk ((by rw [hg]; exact Nat.ne_of_lt (IsS56.lt (show IsS56 w0 _ g s0_0 t256 t257 from by repeat (first | (with_reducible first | exact HI0.out | apply IsS56.alloc | apply IsS56.drewN | apply IsS56.drew | apply IsS56.set_1 | apply IsS56.set_2 | refine IsS56.far ?_ NB0_249.out _) | exact HI0.out))) : g ≠ gb258)); have NB258_0 := Aside0.mk ((by rw [hg]; exact Nat.ne_of_gt (IsS56.lt (show IsS56 w0 _ g s0_0 t256 t257 from by repeat (first | (with_reducible first | exact HI0.out | apply IsS56.alloc | apply IsS56.drewN | apply IsS56.drew | apply IsS56.set_1 | apply IsS56.set_2 | refine IsS56.far ?_ NB0_249.out _) | exact HI0.out))) : gb258 ≠ g)); replace HI0 := Aside0.mk (IsS56.below (by repeat (first | (with_reducible first | exact HI0.out | apply IsS56.alloc | apply IsS56.drewN | apply IsS56.drew | apply IsS56.set_1 | apply IsS56.set_2 | refine IsS56.far ?_ NB0_249.out _) | exact HI0.out)) hb); clear hb hbox hg; obtain ⟨Ao26, co26, eo26⟩ := Kd.R_slice HO252.out; subst eo26; have hnb27 := NB258_249.out; have hnc27 := NB249_258.out; have hnb28 := NB258_0.out; have hnc28 := NB0_258.out; have hcz29_0 : w25.cell? ⟨gb258, 0, none⟩ = some (.slice none 0 0) := (blk_cell BK258.out 0).trans rfl; have hcz29_1 : w25.cell? ⟨gb258, 1, none⟩ = some (.slice none 0 0) := (blk_cell BK258.out 1).trans rfl; have hfz29_0 := blk_frozen BK258.out 0; have hfz29_1 := blk_frozen BK258.out 1; obtain ⟨Ao30, co30, eo30⟩ := Kd.R_slice HO255.out; subst eo30) | ((with_reducible refine gate_callee (f := 31) rfl ?_); refine goesL_ (some 7) rfl rfl Try.func31 (by kernel_rfl) rfl #[.pointer (some ⟨g, 0, none⟩), .int .i64 20] rfl lU ?_; (with_reducible refine (spec_l1Below.calls g s0_0 t256 t257 20 t259 t260 t261 w0 _ ?side1 ?side2 A3.out).mono ?_); (case side1 => repeat (first | (with_reducible first | exact HI0.out | apply IsS56.alloc | apply IsS56.drewN | apply IsS56.drew | apply IsS56.set_1 | apply IsS56.set_2 | refine IsS56.far ?_ NB0_249.out _ | refine IsS56.far ?_ NB0_258.out _) | exact HI0.out)); (case side2 => repeat (first | (with_reducible first | exact HB.out | apply below_alloc | apply pw_below_drewN | apply below_drew1 | refine below_set ?_ (IsS56.ge HI0.out) | refine below_set ?_ GE249.out | refine below_set ?_ GE258.out) | exact HB.out)); rintro e w31 ⟨rfl, hi, hb, hk⟩; refine ⟨_, rfl, ?_⟩; replace BK249 := Aside0.mk (KeepBut.blk hk (g' := gb249) (o := .cells #[.slice none 0 0, .slice none 0 0] 26 (0, 0)) (by refine kU ?_; refine blk_far ?_ NB249_258.out _; refine kU ?_; refine blk_far ?_ NB249_258.out _; refine kU ?_; exact BK249.out) NB249_0.out (by simp)); replace HO252 := Aside0.mk (Kd.R_mono (Kd.R_keep (IsS56.apart (show IsS56 w0 _ g s0_0 t256 t257 from by repeat (first | (with_reducible first | exact HI0.out | apply IsS56.alloc | apply IsS56.drewN | apply IsS56.drew | apply IsS56.set_1 | apply IsS56.set_2 | refine IsS56.far ?_ NB0_249.out _ | refine IsS56.far ?_ NB0_258.out _) | exact HI0.out)) (by refine RU ?_; exact (far2 HO252.out BK258.out)) (by decide)) hk (fun _ h => h.2)) (fun _ h => h.1)); replace HO255 := Aside0.mk (Kd.R_mono (Kd.R_keep (IsS56.apart (show IsS56 w0 _ g s0_0 t256 t257 from by repeat (first | (with_reducible first | exact HI0.out | apply IsS56.alloc | apply IsS56.drewN | apply IsS56.drew | apply IsS56.set_1 | apply IsS56.set_2 | refine IsS56.far ?_ NB0_249.out _ | refine IsS56.far ?_ NB0_258.out _) | exact HI0.out)) (by refine RU ?_; exact (far2 HO255.out BK258.out)) (by decide)) hk (fun _ h => h.2)) (fun _ h => h.1)); replace BK258 := Aside0.mk (KeepBut.blk hk (g' := gb258) (o := .cells #[.slice Ao26 t250.length co26, .slice Ao30 t253.length co30] 26 (0, 0)) (by refine kU ?_; refine blk_put (cs := #[.slice Ao26 t250.length co26, .slice none 0 0]) ?_ 1 _ rfl; refine kU ?_; refine blk_put (cs := #[.slice none 0 0, .slice none 0 0]) ?_ 0 _ rfl; refine kU ?_; exact BK258.out) NB258_0.out (by simp)); replace HK := Aside0.mk (KeepBut.trans (by repeat (first | (with_reducible first | exact HK.out | apply KeepBut.set_ | apply keep_drewN | apply keep_drew | apply keep_alloc | refine keep_far ?_ GW249.out _ | refine keep_far ?_ GW258.out _) | exact HK.out)) hk (.inl rfl)); replace HB := Aside0.mk (hb); replace HI0 := Aside0.mk (hi); (try clear hb); (try clear hb2); (try clear hk); (try clear hi)) | ((with_reducible refine gate_callee (f := 32) rfl ?_); refine goesL_ (some 18) rfl rfl Try.func32 (by kernel_rfl) rfl #[.pointer (some ⟨g, 0, none⟩)] rfl lU ?_; (with_reducible refine (spec_l2Draw.calls k g s0_0 t260 t261 t265 t268 t269 w0 _ ?side1 ?side2 A22.out).mono ?_); (case side1 => repeat (first | (with_reducible first | exact HI0.out | apply IsS56.alloc | apply IsS56.drewN | apply IsS56.drew | apply IsS56.set_1 | apply IsS56.set_2 | refine IsS56.far ?_ NB0_249.out _ | refine IsS56.far ?_ NB0_258.out _) | exact HI0.out)); (case side2 => repeat (first | (with_reducible first | exact HB.out | apply below_alloc | apply pw_below_drewN | apply below_drew1 | refine below_set ?_ (IsS56.ge HI0.out) | refine below_set ?_ GE249.out | refine below_set ?_ GE258.out) | exact HB.out)); rintro e w32 ⟨v266, rfl, ho0, hi, hb, hk⟩; refine ⟨_, rfl, ?_⟩; replace BK249 := Aside0.mk (KeepBut.blk hk (g' := gb249) (o := .cells #[.slice none 0 0, .slice none 0 0] 26 (0, 0)) (kU BK249.out) NB249_0.out (by simp)); replace BK258 := Aside0.mk (KeepBut.blk hk (g' := gb258) (o := .cells #[.slice Ao26 t250.length co26, .slice Ao30 t253.length co30] 26 (0, 0)) (kU BK258.out) NB258_0.out (by simp)); have HO267 := Aside0.mk (Kd.R_lower (Kd.R_new' (Kd.R_new' ho0 (Kd.R_lt (RU HO252.out))) (Kd.R_lt (RU HO255.out))) (keep_size (w := w) (g := g) (row := none) (by repeat (first | (with_reducible first | exact HK.out | apply KeepBut.set_ | apply keep_drewN | apply keep_drew | apply keep_alloc | refine keep_far ?_ GW249.out _ | refine keep_far ?_ GW258.out _) | exact HK.out)))); replace HO252 := Aside0.mk (Kd.R_mono (Kd.R_told (Kd.R_oldK (IsS56.apart (show IsS56 w0 _ g s0_0 t260 t261 from by repeat (first | (with_reducible first | exact HI0.out | apply IsS56.alloc | apply IsS56.drewN | apply IsS56.drew | apply IsS56.set_1 | apply IsS56.set_2 | refine IsS56.far ?_ NB0_249.out _ | refine IsS56.far ?_ NB0_258.out _) | exact HI0.out)) (RU HO252.out) (by decide)) hk) (Kd.R_base ho0)) (fun _ h_ => h_.1)); replace HO255 := Aside0.mk (Kd.R_mono (Kd.R_told (Kd.R_oldK (IsS56.apart (show IsS56 w0 _ g s0_0 t260 t261 from by repeat (first | (with_reducible first | exact HI0.out | apply IsS56.alloc | apply IsS56.drewN | apply IsS56.drew | apply IsS56.set_1 | apply IsS56.set_2 | refine IsS56.far ?_ NB0_249.out _ | refine IsS56.far ?_ NB0_258.out _) | exact HI0.out)) (RU HO255.out) (by decide)) hk) (Kd.R_base ho0)) (fun _ h_ => h_.1)); replace HK := Aside0.mk (KeepBut.trans (by repeat (first | (with_reducible first | exact HK.out | apply KeepBut.set_ | apply keep_drewN | apply keep_drew | apply keep_alloc | refine keep_far ?_ GW249.out _ | refine keep_far ?_ GW258.out _) | exact HK.out)) hk (.inl rfl)); replace HB := Aside0.mk (hb); replace HI0 := Aside0.mk (hi); (try clear hb); (try clear hb2); (try clear hk); (try clear hi); (try clear ho0); obtain ⟨Ao33, co33, eo33⟩ := Kd.R_slice HO267.out; subst eo33; have hcz34_0 : w32.cell? ⟨gb258, 0, none⟩ = some (.slice Ao26 t250.length co26) := (blk_cell BK258.out 0).trans rfl; have hcz34_1 : w32.cell? ⟨gb258, 1, none⟩ = some (.slice Ao30 t253.length co30) := (blk_cell BK258.out 1).trans rfl; have hfz34_0 := blk_frozen BK258.out 0; have hfz34_1 := blk_frozen BK258.out 1; have hnb35 := NB249_0.out; have hnc35 := NB0_249.out; have hcz36_0 : w32.cell? ⟨gb249, 0, none⟩ = some (.slice none 0 0) := (blk_cell BK249.out 0).trans rfl; have hcz36_1 : w32.cell? ⟨gb249, 1, none⟩ = some (.slice none 0 0) := (blk_cell BK249.out 1).trans rfl; have hfz36_0 := blk_frozen BK249.out 0; have hfz36_1 := blk_frozen BK249.out 1))
   refine bodyPost_ret (results_cell_row rfl _ _ gb249 26 #[.slice Ao33 t265.length co33, .slice Ao30 t253.length co30] (0, 0) _ rfl (by refine kU ?_; refine blk_put (cs := #[.slice Ao33 t265.length co33, .slice none 0 0]) ?_ 1 _ rfl; refine kU ?_; refine blk_put (cs := #[.slice none 0 0, .slice none 0 0]) ?_ 0 _ rfl; refine kU ?_; refine blk_far ?_ NB249_258.out _; refine kU ?_; exact BK249.out) Try.underlying26 rfl (by kernel_rfl)) rfl ?_
   exact ⟨_, _, by first | rfl | (simp [errW_none, errW_some] <;> rfl) | (simp [*, errW_none, errW_some] <;> rfl), by refine RU ?_; exact Kd.R_mono (Kd.R_far (p := ⟨gb249, 1, none⟩) (Kd.R_far (p := ⟨gb249, 0, none⟩) (Kd.R_far (p := ⟨gb258, 0, none⟩) (Kd.R_types (Kd.R_types HO267.out BK258.out (by decide)) BK249.out (by decide)) (fun _ hk => hk.1.2) (.slice Ao33 t265.length co33)) (fun _ hk => hk.2) (.slice Ao33 t265.length co33)) (fun _ hk => hk.2) (.slice Ao30 t253.length co30)) (fun _ hk => hk.1.1.2), by refine RU ?_; exact Kd.R_mono (Kd.R_far (p := ⟨gb249, 1, none⟩) (Kd.R_far (p := ⟨gb249, 0, none⟩) (Kd.R_far (p := ⟨gb258, 0, none⟩) (Kd.R_types (Kd.R_types HO255.out BK258.out (by decide)) BK249.out (by decide)) (fun _ hk => hk.1.2) (.slice Ao33 t265.length co33)) (fun _ hk => hk.2) (.slice Ao33 t265.length co33)) (fun _ hk => hk.2) (.slice Ao30 t253.length co30)) (fun _ hk => hk.1.1.2), by repeat (first | (with_reducible first | exact HI0.out | apply IsS56.alloc | apply IsS56.drewN | apply IsS56.drew | apply IsS56.set_1 | apply IsS56.set_2 | refine IsS56.far ?_ NB0_249.out _ | refine IsS56.far ?_ NB0_258.out _) | exact HI0.out), by repeat (first | (with_reducible first | exact HB.out | apply below_alloc | apply pw_below_drewN | apply below_drew1 | refine below_set ?_ (IsS56.ge HI0.out) | refine below_set ?_ GE249.out | refine below_set ?_ GE258.out) | exact HB.out), by repeat (first | (with_reducible first | exact HK.out | apply KeepBut.set_ | apply keep_drewN | apply keep_drew | apply keep_alloc | refine keep_far ?_ GW249.out _ | refine keep_far ?_ GW258.out _) | exact HK.out)⟩
  ·
   rw [if_neg c21] at H
   have c21b0 : (t259 == 1) = false := beq_eq_false_iff_ne.mpr c21
   have c21b1 : (t259 != 1) = true := bne_iff_ne.mpr c21
   by_cases c37 : t259 = 2
   ·
    rw [if_pos c37] at H
    have c37b0 : (t259 == 2) = true := beq_iff_eq.mpr c37
    have c37b1 : (t259 != 2) = false := bne_eq_false_iff_eq.mpr c37
    clear c37
    by_cases c38 : (t253.length : Int) > 0
    ·
     rw [if_pos c38] at H
     have c38b0 : decide (0 < (t253.length : Int)) = true := decide_eq_true c38
     have c38b1 : decide (0 < t253.length) = true := decide_eq_true (by omega)
     clear c38
     replace H := Option.bind_eq_some_iff.mp H
     obtain ⟨⟨t270, t271, t272⟩, A390, H⟩ := H
     replace H : ((spec_l1DrawRaw.f s0_0 t271 t272).bind fun bt273 => (if 0 ≤ t270 then (if t270 < (t253.length : Int) then (some (t250, (t253.set (t270 : Int).toNat bt273.1), bt273.2.1, bt273.2.2)) else (none)) else (none))) = some (r1, r2, r3, r4) := H
     have A39 := Aside0.mk A390
     clear A390
     replace H := Option.bind_eq_some_iff.mp H
     obtain ⟨⟨t273, t274, t275⟩, A400, H⟩ := H
     replace H : (if 0 ≤ t270 then (if t270 < (t253.length : Int) then (some (t250, (t253.set (t270 : Int).toNat t273), t274, t275)) else (none)) else (none)) = some (r1, r2, r3, r4) := H
     have A40 := Aside0.mk A400
     clear A400
     by_cases c41 : 0 ≤ t270
     ·
      rw [if_pos c41] at H
      have c41b0 : decide (0 ≤ t270) = true := decide_eq_true c41
      clear c41
      by_cases c42 : t270 < (t253.length : Int)
      ·
       rw [if_pos c42] at H
       have c42b0 : decide (t270 < (t253.length : Int)) = true := decide_eq_true c42
       clear c42
       obtain ⟨y276, hy276⟩ : ∃ y_ : List Int, y_ = (t253.set (t270 : Int).toNat t273) := ⟨_, rfl⟩
       replace H : (some (t250, y276, t274, t275)) = some (r1, r2, r3, r4) := by first | (rw [hy276]; with_reducible exact H) | (have H2_ := (Option.bind_some _ _).symm.trans H; rw [hy276]; with_reducible exact H2_) | (have H2_ := (Option.bind_some _ _).symm.trans H; with_reducible exact H2_) | with_reducible exact H | (rw [hy276]; exact H) | exact H
       have Ny276 := Aside0.mk hy276
       clear hy276
       simp only [Option.some.injEq, Prod.mk.injEq] at H
       obtain ⟨rfl, rfl, rfl, rfl⟩ := H
       go_enter Try.func13, Try.ntmps13
       try go_wp2_with (first | ((with_reducible refine gate_dst (N := 2) rfl ?_); refine box_event ?hg (N := 2) ?hd (cs := #[.slice none 0 0, .slice none 0 0]) (t := 26) ?hr ?_; (case hd => rfl); (case hg => rfl); (case hr => first | (go_simp; done) | (go_simp; rfl)); intro gb249 hg w44 hbox hb; replace HB := Aside0.mk (below_step (by repeat (first | (with_reducible first | exact HB.out | apply below_alloc | apply pw_below_drewN | apply below_drew1 | refine below_set ?_ (IsS56.ge HI0.out)) | exact HB.out)) hb); have BK249 := Aside0.mk (hbox); have GW249 := Aside0.mk ((by rw [hg]; exact (keep_size (w := w) (g := g) (row := none) (hU HK.out)) : w.heap.size ≤ gb249)); have GE249 := Aside0.mk ((Nat.le_trans HW0.out (by rw [hg]; exact (keep_size (w := w) (g := g) (row := none) (hU HK.out)) : w.heap.size ≤ gb249) : w0.heap.size ≤ gb249)); replace HK := Aside0.mk (KeepBut.trans (hU HK.out) (KeepBut.of_below hb g none) (.inl rfl)); have NB0_249 := Aside0.mk ((by rw [hg]; exact Nat.ne_of_lt (IsS56.lt (show IsS56 w0 _ g s0_0 s0_1 s0_2 from by exact iU0 HI0.out)) : g ≠ gb249)); have NB249_0 := Aside0.mk ((by rw [hg]; exact Nat.ne_of_gt (IsS56.lt (show IsS56 w0 _ g s0_0 s0_1 s0_2 from by exact iU0 HI0.out)) : gb249 ≠ g)); replace HI0 := Aside0.mk (IsS56.below (iU0 HI0.out) hb); clear hb hbox hg) | ((with_reducible refine gate_callee (f := 30) rfl ?_); refine goesL_ (some 5) rfl rfl Try.func30 (by kernel_rfl) rfl #[.pointer (some ⟨g, 0, none⟩)] rfl lU ?_; (with_reducible refine (spec_l3DrawRight.calls k g s0_0 s0_1 s0_2 t250 t253 t256 t257 w0 _ ?side1 ?side2 A2.out).mono ?_); (case side1 => repeat (first | (with_reducible first | exact HI0.out | apply IsS56.alloc | apply IsS56.drewN | apply IsS56.drew | apply IsS56.set_1 | apply IsS56.set_2 | refine IsS56.far ?_ NB0_249.out _) | exact HI0.out)); (case side2 => repeat (first | (with_reducible first | exact HB.out | apply below_alloc | apply pw_below_drewN | apply below_drew1 | refine below_set ?_ (IsS56.ge HI0.out) | refine below_set ?_ GE249.out) | exact HB.out)); rintro e w45 ⟨v251, v254, rfl, ho0, ho1, hi, hb, hk⟩; refine ⟨_, rfl, ?_⟩; replace BK249 := Aside0.mk (KeepBut.blk hk (g' := gb249) (o := .cells #[.slice none 0 0, .slice none 0 0] 26 (0, 0)) (kU BK249.out) NB249_0.out (by simp)); have HO252 := Aside0.mk (Kd.R_lower ho0 (keep_size (w := w) (g := g) (row := none) (by repeat (first | (with_reducible first | exact HK.out | apply KeepBut.set_ | apply keep_drewN | apply keep_drew | apply keep_alloc | refine keep_far ?_ GW249.out _) | exact HK.out)))); have HO255 := Aside0.mk (Kd.R_lower ho1 (keep_size (w := w) (g := g) (row := none) (by repeat (first | (with_reducible first | exact HK.out | apply KeepBut.set_ | apply keep_drewN | apply keep_drew | apply keep_alloc | refine keep_far ?_ GW249.out _) | exact HK.out)))); replace HK := Aside0.mk (KeepBut.trans (by repeat (first | (with_reducible first | exact HK.out | apply KeepBut.set_ | apply keep_drewN | apply keep_drew | apply keep_alloc | refine keep_far ?_ GW249.out _) | exact HK.out)) hk (.inl rfl)); replace HB := Aside0.mk (hb); replace HI0 := Aside0.mk (hi); (try clear hb); (try clear hb2); (try clear hk); (try clear hi); (try clear ho0); (try clear ho1)) | ((with_reducible refine gate_dst (N := 3) rfl ?_); refine box_event ?hg (N := 3) ?hd (cs := #[.slice none 0 0, .slice none 0 0]) (t := 26) ?hr ?_; (case hd => rfl); (case hg => rfl); (case hr => first | (go_simp; done) | (go_simp; rfl)); intro gb258 hg w46 hbox hb; replace HO252 := Aside0.mk (Kd.R_below (RU HO252.out) hb); replace HO255 := Aside0.mk (Kd.R_below (RU HO255.out) hb); replace HB := Aside0.mk (below_step (by repeat (first | (with_reducible first | exact HB.out | apply below_alloc | apply pw_below_drewN | apply below_drew1 | refine below_set ?_ (IsS56.ge HI0.out) | refine below_set ?_ GE249.out) | exact HB.out)) hb); have BK258 := Aside0.mk (hbox); have GW258 := Aside0.mk ((by rw [hg]; exact (keep_size (w := w) (g := g) (row := none) (by repeat (first | (with_reducible first | exact HK.out | apply KeepBut.set_ | apply keep_drewN | apply keep_drew | apply keep_alloc | refine keep_far ?_ GW249.out _) | exact HK.out))) : w.heap.size ≤ gb258)); have GE258 := Aside0.mk ((Nat.le_trans HW0.out (by rw [hg]; exact (keep_size (w := w) (g := g) (row := none) (by repeat (first | (with_reducible first | exact HK.out | apply KeepBut.set_ | apply keep_drewN | apply keep_drew | apply keep_alloc | refine keep_far ?_ GW249.out _) | exact HK.out))) : w.heap.size ≤ gb258) : w0.heap.size ≤ gb258)); replace HK := Aside0.mk (KeepBut.trans (by repeat (first | (with_reducible first | exact HK.out | apply KeepBut.set_ | apply keep_drewN | apply keep_drew | apply keep_alloc | refine keep_far ?_ GW249.out _) | exact HK.out)) (KeepBut.of_below hb g none) (.inl rfl)); have NB249_258 := Aside0.mk (kN BK249.out hg); have NB258_249 := Aside0.mk (kM BK249.out hg); replace BK249 := Aside0.mk (kB BK249.out hb); have NB0_258 := Aside0.mk ((by rw [hg]; exact Nat.ne_of_lt (IsS56.lt (show IsS56 w0 _ g s0_0 t256 t257 from by repeat (first | (with_reducible first | exact HI0.out | apply IsS56.alloc | apply IsS56.drewN | apply IsS56.drew | apply IsS56.set_1 | apply IsS56.set_2 | refine IsS56.far ?_ NB0_249.out _) | exact HI0.out))) : g ≠ gb258)); have NB258_0 := Aside0.mk ((by rw [hg]; exact Nat.ne_of_gt (IsS56.lt (show IsS56 w0 _ g s0_0 t256 t257 from by repeat (first | (with_reducible first | exact HI0.out | apply IsS56.alloc | apply IsS56.drewN | apply IsS56.drew | apply IsS56.set_1 | apply IsS56.set_2 | refine IsS56.far ?_ NB0_249.out _) | exact HI0.out))) : gb258 ≠ g)); replace HI0 := Aside0.mk (IsS56.below (by repeat (first | (with_reducible first | exact HI0.out | apply IsS56.alloc | apply IsS56.drewN | apply IsS56.drew | apply IsS56.set_1 | apply IsS56.set_2 | refine IsS56.far ?_ NB0_249.out _) | exact HI0.out)) hb); clear hb hbox hg; obtain ⟨Ao47, co47, eo47⟩ := Kd.R_slice HO252.out; subst eo47; have hnb48 := NB258_249.out; have hnc48 := NB249_258.out; have hnb49 := NB258_0.out; have hnc49 := NB0_258.out; have hcz50_0 : w46.cell? ⟨gb258, 0, none⟩ = some (.slice none 0 0) := (blk_cell BK258.out 0).trans rfl; have hcz50_1 : w46.cell? ⟨gb258, 1, none⟩ = some (.slice none 0 0) := (blk_cell BK258.out 1).trans rfl; have hfz50_0 := blk_frozen BK258.out 0; have hfz50_1 := blk_frozen BK258.out 1; obtain ⟨Ao51, co51, eo51⟩ := Kd.R_slice HO255.out; subst eo51) | ((with_reducible refine gate_callee (f := 31) rfl ?_); refine goesL_ (some 7) rfl rfl Try.func31 (by kernel_rfl) rfl #[.pointer (some ⟨g, 0, none⟩), .int .i64 20] rfl lU ?_; (with_reducible refine (spec_l1Below.calls g s0_0 t256 t257 20 t259 t260 t261 w0 _ ?side1 ?side2 A3.out).mono ?_); (case side1 => repeat (first | (with_reducible first | exact HI0.out | apply IsS56.alloc | apply IsS56.drewN | apply IsS56.drew | apply IsS56.set_1 | apply IsS56.set_2 | refine IsS56.far ?_ NB0_249.out _ | refine IsS56.far ?_ NB0_258.out _) | exact HI0.out)); (case side2 => repeat (first | (with_reducible first | exact HB.out | apply below_alloc | apply pw_below_drewN | apply below_drew1 | refine below_set ?_ (IsS56.ge HI0.out) | refine below_set ?_ GE249.out | refine below_set ?_ GE258.out) | exact HB.out)); rintro e w52 ⟨rfl, hi, hb, hk⟩; refine ⟨_, rfl, ?_⟩; replace BK249 := Aside0.mk (KeepBut.blk hk (g' := gb249) (o := .cells #[.slice none 0 0, .slice none 0 0] 26 (0, 0)) (by refine kU ?_; refine blk_far ?_ NB249_258.out _; refine kU ?_; refine blk_far ?_ NB249_258.out _; refine kU ?_; exact BK249.out) NB249_0.out (by simp)); replace HO252 := Aside0.mk (Kd.R_mono (Kd.R_keep (IsS56.apart (show IsS56 w0 _ g s0_0 t256 t257 from by repeat (first | (with_reducible first | exact HI0.out | apply IsS56.alloc | apply IsS56.drewN | apply IsS56.drew | apply IsS56.set_1 | apply IsS56.set_2 | refine IsS56.far ?_ NB0_249.out _ | refine IsS56.far ?_ NB0_258.out _) | exact HI0.out)) (by refine RU ?_; exact (far2 HO252.out BK258.out)) (by decide)) hk (fun _ h => h.2)) (fun _ h => h.1)); replace HO255 := Aside0.mk (Kd.R_mono (Kd.R_keep (IsS56.apart (show IsS56 w0 _ g s0_0 t256 t257 from by repeat (first | (with_reducible first | exact HI0.out | apply IsS56.alloc | apply IsS56.drewN | apply IsS56.drew | apply IsS56.set_1 | apply IsS56.set_2 | refine IsS56.far ?_ NB0_249.out _ | refine IsS56.far ?_ NB0_258.out _) | exact HI0.out)) (by refine RU ?_; exact (far2 HO255.out BK258.out)) (by decide)) hk (fun _ h => h.2)) (fun _ h => h.1)); replace BK258 := Aside0.mk (KeepBut.blk hk (g' := gb258) (o := .cells #[.slice Ao47 t250.length co47, .slice Ao51 t253.length co51] 26 (0, 0)) (by refine kU ?_; refine blk_put (cs := #[.slice Ao47 t250.length co47, .slice none 0 0]) ?_ 1 _ rfl; refine kU ?_; refine blk_put (cs := #[.slice none 0 0, .slice none 0 0]) ?_ 0 _ rfl; refine kU ?_; exact BK258.out) NB258_0.out (by simp)); replace HK := Aside0.mk (KeepBut.trans (by repeat (first | (with_reducible first | exact HK.out | apply KeepBut.set_ | apply keep_drewN | apply keep_drew | apply keep_alloc | refine keep_far ?_ GW249.out _ | refine keep_far ?_ GW258.out _) | exact HK.out)) hk (.inl rfl)); replace HB := Aside0.mk (hb); replace HI0 := Aside0.mk (hi); (try clear hb); (try clear hb2); (try clear hk); (try clear hi); have hcz53_0 : w52.cell? ⟨gb258, 0, none⟩ = some (.slice Ao47 t250.length co47) := (blk_cell BK258.out 0).trans rfl; have hcz53_1 : w52.cell? ⟨gb258, 1, none⟩ = some (.slice Ao51 t253.length co51) := (blk_cell BK258.out 1).trans rfl; have hfz53_0 := blk_frozen BK258.out 0; have hfz53_1 := blk_frozen BK258.out 1))
       replace HO252 := Aside0.mk (Kd.R_drew HO252.out)
       replace HO255 := Aside0.mk (Kd.R_drew HO255.out)
       replace BK249 := Aside0.mk (blk_drew BK249.out)
       replace BK258 := Aside0.mk (blk_drew BK258.out)
       replace HI0 := Aside0.mk (IsS56.drew HI0.out)
       replace HK := Aside0.mk (keep_drew HK.out)
       replace HB := Aside0.mk (below_drew1 HB.out)
       refine start_ (n := 11) (S := fun w' => w'.cell? ⟨gb258, 0, none⟩ = some (.slice Ao47 t250.length co47) ∧ w'.cell? ⟨gb258, 1, none⟩ = some (.slice Ao51 t253.length co51)) (ds := [10]) #[false, false, false, false, false, false, false, false, false, false, false] (by kernel_rfl) rfl rfl ⟨(blk_cell BK258.out 0).trans rfl, (blk_cell BK258.out 1).trans rfl⟩ (fun hHeld => ?_); refine with_tabW spec_l3Draw.tab9 spec_l3Draw.bits9 (fun HT_ HW_ => ?_)
       generalize w52.drew = w54 at HO252 HO255 BK249 BK258 HI0 HK HB hHeld ⊢
       refine pure_ (i := 0) (N := some 26) (v := ?_) (a' := ?_) #[true, false, false, false, false, false, false, false, false, false, false] rfl rfl (any_of HT_.out (by kernel_rfl)) (fun _ _ _ h => h) (Or.inl ⟨by rfl, ?_⟩) ?_ ?_
       rotate_left
       ·
        intro w'
        go_simp
        with_reducible rfl
       rotate_left
       ·
        simp only [Act.put, List.setIfInBounds_toArray, List.set_cons_zero, List.set_cons_succ, i64_w, i32_w]
        rfl
       refine pure_ (i := 2) (N := some 28) (v := ?_) (a' := ?_) #[true, false, true, false, false, false, false, false, false, false, false] rfl rfl (any_of HT_.out (by kernel_rfl)) (fun _ _ _ h => h) (Or.inl ⟨by rfl, ?_⟩) ?_ ?_
       rotate_left
       ·
        intro w'
        go_simp
        with_reducible rfl
       rotate_left
       ·
        simp only [Act.put, List.setIfInBounds_toArray, List.set_cons_zero, List.set_cons_succ, i64_w, i32_w]
        rfl
       refine pure_ (i := 3) (N := some 29) (v := ?_) (a' := ?_) #[true, false, true, true, false, false, false, false, false, false, false] rfl rfl (any_of HT_.out (by kernel_rfl)) (fun _ _ _ h => h) (Or.inl ⟨by rfl, ?_⟩) ?_ ?_
       rotate_left
       ·
        intro w'
        go_simp
        with_reducible rfl
       rotate_left
       ·
        simp only [Act.put, List.setIfInBounds_toArray, List.set_cons_zero, List.set_cons_succ, i64_w, i32_w]
        rfl
       refine pure_ (i := 7) (N := some 33) (v := ?_) (a' := ?_) #[true, false, true, true, false, false, false, true, false, false, false] rfl rfl (any_of HT_.out (by kernel_rfl)) (fun _ _ _ h => h) (Or.inl ⟨by rfl, ?_⟩) ?_ ?_
       rotate_left
       ·
        intro w'
        go_simp
        with_reducible rfl
       rotate_left
       ·
        simp only [Act.put, List.setIfInBounds_toArray, List.set_cons_zero, List.set_cons_succ, i64_w, i32_w]
        rfl
       refine take_ (i := 1) (N := some 27) (v := ?_) (a' := ?_) #[true, true, true, true, false, false, false, true, false, false, false] rfl rfl (take_ofW HT_.out HW_.out (by kernel_rfl)) (fun _ _ _ h => h) (Or.inl ⟨by rfl, ?_⟩) hHeld ?_ ?_
       rotate_left
       ·
        rintro w' ⟨s0, s1⟩
        go_simp
        with_reducible rfl
       rotate_left
       ·
        simp only [Act.put, List.setIfInBounds_toArray, List.set_cons_zero, List.set_cons_succ, i64_w, i32_w]
        rfl
       refine take_ (i := 4) (N := some 30) (v := ?_) (a' := ?_) #[true, true, true, true, true, false, false, true, false, false, false] rfl rfl (take_ofW HT_.out HW_.out (by kernel_rfl)) (fun _ _ _ h => h) (Or.inl ⟨by rfl, ?_⟩) hHeld ?_ ?_
       rotate_left
       ·
        rintro w' ⟨s0, s1⟩
        go_simp
        with_reducible rfl
       rotate_left
       ·
        simp only [Act.put, List.setIfInBounds_toArray, List.set_cons_zero, List.set_cons_succ, i64_w, i32_w]
        rfl
       refine pure_ (i := 5) (N := some 31) (v := ?_) (a' := ?_) #[true, true, true, true, true, true, false, true, false, false, false] rfl rfl (any_of HT_.out (by kernel_rfl)) (fun _ _ _ h => h) (Or.inl ⟨by rfl, ?_⟩) ?_ ?_
       rotate_left
       ·
        intro w'
        go_simp
        with_reducible rfl
       rotate_left
       ·
        simp only [Act.put, List.setIfInBounds_toArray, List.set_cons_zero, List.set_cons_succ, i64_w, i32_w]
        rfl
       refine one_ (i := 6) (N := some 32) #[true, true, true, true, true, true, true, true, false, false, false] rfl rfl (one_of HT_.out (by kernel_rfl)) (by decide) (fun K hK => ?_)
       refine goes_ Try.func31 (by kernel_rfl) rfl #[.pointer (some ⟨g, 0, none⟩), .int .i64 (t253.length : Int)] (by rfl) rfl rfl lU ?_
       with_reducible refine (spec_l1Below.calls g s0_0 t260 t261 (t253.length : Int) t270 t271 t272 w0 _ ?side1 ?side2 A39.out).mono ?_
       (case side1 => repeat (first | (with_reducible first | exact HI0.out | apply IsS56.alloc | apply IsS56.drewN | apply IsS56.drew | apply IsS56.set_1 | apply IsS56.set_2 | refine IsS56.far ?_ NB0_249.out _ | refine IsS56.far ?_ NB0_258.out _) | exact HI0.out))
       (case side2 => repeat (first | (with_reducible first | exact HB.out | apply below_alloc | apply pw_below_drewN | apply below_drew1 | refine below_set ?_ (IsS56.ge HI0.out) | refine below_set ?_ GE249.out | refine below_set ?_ GE258.out) | exact HB.out))
       rintro e w55 ⟨rfl, hi, hb, hk⟩
       refine ⟨_, rfl, ?_⟩
       replace BK249 := Aside0.mk (KeepBut.blk hk (g' := gb249) (o := .cells #[.slice none 0 0, .slice none 0 0] 26 (0, 0)) (kU BK249.out) NB249_0.out (by simp))
       replace HO252 := Aside0.mk (Kd.R_mono (Kd.R_keep (IsS56.apart (show IsS56 w0 _ g s0_0 t260 t261 from by repeat (first | (with_reducible first | exact HI0.out | apply IsS56.alloc | apply IsS56.drewN | apply IsS56.drew | apply IsS56.set_1 | apply IsS56.set_2 | refine IsS56.far ?_ NB0_249.out _ | refine IsS56.far ?_ NB0_258.out _) | exact HI0.out)) (RU HO252.out) (by decide)) hk (fun _ h => h.2)) (fun _ h => h.1))
       replace HO255 := Aside0.mk (Kd.R_mono (Kd.R_keep (IsS56.apart (show IsS56 w0 _ g s0_0 t260 t261 from by repeat (first | (with_reducible first | exact HI0.out | apply IsS56.alloc | apply IsS56.drewN | apply IsS56.drew | apply IsS56.set_1 | apply IsS56.set_2 | refine IsS56.far ?_ NB0_249.out _ | refine IsS56.far ?_ NB0_258.out _) | exact HI0.out)) (RU HO255.out) (by decide)) hk (fun _ h => h.2)) (fun _ h => h.1))
       replace BK258 := Aside0.mk (KeepBut.blk hk (g' := gb258) (o := .cells #[.slice Ao47 t250.length co47, .slice Ao51 t253.length co51] 26 (0, 0)) (kU BK258.out) NB258_0.out (by simp))
       replace HK := Aside0.mk (KeepBut.trans (by repeat (first | (with_reducible first | exact HK.out | apply KeepBut.set_ | apply keep_drewN | apply keep_drew | apply keep_alloc | refine keep_far ?_ GW249.out _ | refine keep_far ?_ GW258.out _) | exact HK.out)) hk (.inl rfl))
       replace HB := Aside0.mk (hb)
       replace HI0 := Aside0.mk (hi)
       (try clear hb)
       (try clear hb2)
       (try clear hk)
       (try clear hi)
       refine hK.out _ _ ⟨(blk_cell BK258.out 0).trans rfl, (blk_cell BK258.out 1).trans rfl⟩ (fun hHeld => ?_)
       clear hK K
       refine norm_ (a' := ?_) ?_ ?_
       rotate_left
       ·
        show Act.put _ (some 32) _ = _
        simp only [Act.put, List.setIfInBounds_toArray, List.set_cons_zero, List.set_cons_succ, i64_w, i32_w]
        rfl
       refine one_ (i := 8) (N := some 34) #[true, true, true, true, true, true, true, true, true, false, false] rfl rfl (one_of HT_.out (by kernel_rfl)) (by decide) (fun K hK => ?_)
       refine goes_ Try.func33 (by kernel_rfl) rfl #[.pointer (some ⟨g, 0, none⟩)] (by rfl) rfl rfl lU ?_
       with_reducible refine (spec_l1DrawRaw.calls g s0_0 t271 t272 t273 t274 t275 w0 _ ?side1 ?side2 A40.out).mono ?_
       (case side1 => repeat (first | (with_reducible first | exact HI0.out | apply IsS56.alloc | apply IsS56.drewN | apply IsS56.drew | apply IsS56.set_1 | apply IsS56.set_2 | refine IsS56.far ?_ NB0_249.out _ | refine IsS56.far ?_ NB0_258.out _) | exact HI0.out))
       (case side2 => repeat (first | (with_reducible first | exact HB.out | apply below_alloc | apply pw_below_drewN | apply below_drew1 | refine below_set ?_ (IsS56.ge HI0.out) | refine below_set ?_ GE249.out | refine below_set ?_ GE258.out) | exact HB.out))
       rintro e w56 ⟨rfl, hi, hb, hk⟩
       refine ⟨_, rfl, ?_⟩
       replace BK249 := Aside0.mk (KeepBut.blk hk (g' := gb249) (o := .cells #[.slice none 0 0, .slice none 0 0] 26 (0, 0)) (kU BK249.out) NB249_0.out (by simp))
       replace HO252 := Aside0.mk (Kd.R_mono (Kd.R_keep (IsS56.apart (show IsS56 w0 _ g s0_0 t271 t272 from by repeat (first | (with_reducible first | exact HI0.out | apply IsS56.alloc | apply IsS56.drewN | apply IsS56.drew | apply IsS56.set_1 | apply IsS56.set_2 | refine IsS56.far ?_ NB0_249.out _ | refine IsS56.far ?_ NB0_258.out _) | exact HI0.out)) (RU HO252.out) (by decide)) hk (fun _ h => h.2)) (fun _ h => h.1))
       replace HO255 := Aside0.mk (Kd.R_mono (Kd.R_keep (IsS56.apart (show IsS56 w0 _ g s0_0 t271 t272 from by repeat (first | (with_reducible first | exact HI0.out | apply IsS56.alloc | apply IsS56.drewN | apply IsS56.drew | apply IsS56.set_1 | apply IsS56.set_2 | refine IsS56.far ?_ NB0_249.out _ | refine IsS56.far ?_ NB0_258.out _) | exact HI0.out)) (RU HO255.out) (by decide)) hk (fun _ h => h.2)) (fun _ h => h.1))
       replace BK258 := Aside0.mk (KeepBut.blk hk (g' := gb258) (o := .cells #[.slice Ao47 t250.length co47, .slice Ao51 t253.length co51] 26 (0, 0)) (kU BK258.out) NB258_0.out (by simp))
       replace HK := Aside0.mk (KeepBut.trans (by repeat (first | (with_reducible first | exact HK.out | apply KeepBut.set_ | apply keep_drewN | apply keep_drew | apply keep_alloc | refine keep_far ?_ GW249.out _ | refine keep_far ?_ GW258.out _) | exact HK.out)) hk (.inl rfl))
       replace HB := Aside0.mk (hb)
       replace HI0 := Aside0.mk (hi)
       (try clear hb)
       (try clear hb2)
       (try clear hk)
       (try clear hi)
       have p43 : 0 ≤ (t270 : Int) := of_decide_eq_true (by first | (with_reducible assumption) | assumption)
       have q43 : (t270 : Int) < ((t253.length : Int) : Int) := of_decide_eq_true (by first | (with_reducible assumption) | assumption)
       obtain ⟨go43, co43, eo43, gb43, gl43, cl43, HG43⟩ := Kd.R_form HO255.out (by omega)
       (first | cases eo43 | (injection eo43 with ea_ en_ ec_; (first | subst ea_ | (injection ea_ with ea_; subst ea_)); subst ec_; clear en_))
       have GB43 := Aside0.mk gb43
       have GG43 := Aside0.mk HG43
       clear gb43 gl43 HG43
       obtain ⟨hx43_0, hf43_0⟩ := Kd.R_celln 0 HO255.out (t270 : Int) p43 q43
       replace p43 := eq_true p43
       replace q43 := eq_true q43
       have HN0_go43 := Aside0.mk (show g ≠ go43 from by have h_ := IsS56.own_ne HI0.out HO255.out (by decide); intro e_; exact h_ (by rw [e_]; rfl))
       have HP57 := Kd.R_putn HO255.out (t270 : Int) t273
       rw [← Ny276.out] at HP57
       have HQ57 := Aside0.mk HP57
       clear HP57
       refine hK.out _ _ ⟨(blk_cell BK258.out 0).trans rfl, (blk_cell BK258.out 1).trans rfl⟩ (fun hHeld => ?_)
       clear hK K
       refine norm_ (a' := ?_) ?_ ?_
       rotate_left
       ·
        show Act.put _ (some 34) _ = _
        simp only [Act.put, List.setIfInBounds_toArray, List.set_cons_zero, List.set_cons_succ, i64_w, i32_w]
        rfl
       refine pure_ (i := 9) (N := some 35) (v := ?_) (a' := ?_) #[true, true, true, true, true, true, true, true, true, true, false] rfl rfl (any_of HT_.out (by kernel_rfl)) (fun _ _ _ h => h) (Or.inl ⟨by rfl, ?_⟩) ?_ ?_
       rotate_left
       ·
        intro w'
        go_simp
        with_reducible rfl
       rotate_left
       ·
        simp only [Act.put, List.setIfInBounds_toArray, List.set_cons_zero, List.set_cons_succ, i64_w, i32_w]
        rfl
       refine last_ (i := 10) (N := none) #[true, true, true, true, true, true, true, true, true, true, true] rfl rfl (one_of HT_.out (by kernel_rfl)) (by decide) (fun K hK => ?_)
       refine skip_ (w1 := ?_) (by rfl) rfl ?_ ?_
       rotate_left
       ·
        go_simp
        rfl
       refine hK.out _ _ ?_
       clear hK K
       refine done_ (done_of HT_.out (by kernel_rfl)) ?_
       have n0_ : Aside0 (Kd.R (Kd.int .i64) 3 (w56.setCell ⟨go43, (t270 : Int).toNat, none⟩ (.int .i64 t273)) w.heap.size (fun k_ => some k_ ≠ (.slice (some ⟨go43, 0, none⟩) t253.length co51 : Value).ownBlock) (.slice Ao47 t250.length co47) t250) := ⟨by refine RU ?_; exact Kd.R_mono (Kd.R_far (p := ⟨go43, (t270 : Int).toNat, none⟩) (Kd.R_mono HO252.out (fun k_ hk => (⟨hk, fun e_ => hk (by rw [e_]; rfl)⟩ : _ ∧ k_ ≠ go43))) (fun _ hk => hk.2) (.int .i64 t273)) (fun _ hk => hk.1)⟩
       have n1_ : Aside0 (Kd.R (Kd.int .i64) 3 (w56.setCell ⟨go43, (t270 : Int).toNat, none⟩ (.int .i64 t273)) w.heap.size (fun k_ => some k_ ≠ (.slice Ao47 t250.length co47 : Value).ownBlock) (.slice (some ⟨go43, 0, none⟩) t253.length co51) y276) := ⟨by refine RU ?_; exact HQ57.out⟩
       have n2_ : Aside0 ((w56.setCell ⟨go43, (t270 : Int).toNat, none⟩ (.int .i64 t273)).heap[gb249]? = some (.cells #[.slice none 0 0, .slice none 0 0] 26 (0, 0))) := ⟨by refine kU ?_; refine blk_far ?_ (by have h_ := Kd.R_ne HO255.out BK249.out (by decide); intro e_; exact h_ (by rw [e_]; rfl)) _; refine kU ?_; exact BK249.out⟩
       have n3_ : Aside0 ((w56.setCell ⟨go43, (t270 : Int).toNat, none⟩ (.int .i64 t273)).heap[gb258]? = some (.cells #[.slice Ao47 t250.length co47, .slice (some ⟨go43, 0, none⟩) t253.length co51] 26 (0, 0))) := ⟨by refine kU ?_; refine blk_far ?_ (by have h_ := Kd.R_ne HO255.out BK258.out (by decide); intro e_; exact h_ (by rw [e_]; rfl)) _; refine kU ?_; exact BK258.out⟩
       have n4_ : Aside0 (IsS56 w0 (w56.setCell ⟨go43, (t270 : Int).toNat, none⟩ (.int .i64 t273)) g s0_0 t274 t275) := ⟨by repeat (first | (with_reducible first | exact HI0.out | apply IsS56.alloc | apply IsS56.drewN | apply IsS56.drew | apply IsS56.set_1 | apply IsS56.set_2 | refine IsS56.far ?_ HN0_go43.out _ | refine IsS56.far ?_ NB0_249.out _ | refine IsS56.far ?_ NB0_258.out _) | exact HI0.out)⟩
       have n5_ : Aside0 (KeepBut w (w56.setCell ⟨go43, (t270 : Int).toNat, none⟩ (.int .i64 t273)) g none) := ⟨by repeat (first | (with_reducible first | exact HK.out | apply KeepBut.set_ | apply keep_drewN | apply keep_drew | apply keep_alloc | refine keep_far ?_ GB43.out _ | refine keep_far ?_ GW249.out _ | refine keep_far ?_ GW258.out _) | exact HK.out)⟩
       have n6_ : Aside0 (Below w0.heap.size w0 (w56.setCell ⟨go43, (t270 : Int).toNat, none⟩ (.int .i64 t273))) := ⟨by repeat (first | (with_reducible first | exact HB.out | apply below_alloc | apply pw_below_drewN | apply below_drew1 | refine below_set ?_ (Nat.le_trans HL.out GB43.out) | refine below_set ?_ (IsS56.ge HI0.out) | refine below_set ?_ GE249.out | refine below_set ?_ GE258.out) | exact HB.out)⟩
       (try clear HO252)
       (try clear HO255)
       (try clear BK249)
       (try clear BK258)
       (try clear HI0)
       (try clear HK)
       (try clear HB)
       generalize (w56.setCell ⟨go43, (t270 : Int).toNat, none⟩ (.int .i64 t273)) = w58 at n0_ n1_ n2_ n3_ n4_ n5_ n6_ ⊢
       have HO252 := n0_
       have HO255 := n1_
       have BK249 := n2_
       have BK258 := n3_
       have HI0 := n4_
       have HK := n5_
       have HB := n6_
       clear n0_ n1_ n2_ n3_ n4_ n5_ n6_
       have hcz59_0 : w58.cell? ⟨gb258, 0, none⟩ = some (.slice Ao47 t250.length co47) := (blk_cell BK258.out 0).trans rfl
       have hcz59_1 : w58.cell? ⟨gb258, 1, none⟩ = some (.slice (some ⟨go43, 0, none⟩) t253.length co51) := (blk_cell BK258.out 1).trans rfl
       have hfz59_0 := blk_frozen BK258.out 0
       have hfz59_1 := blk_frozen BK258.out 1
       have hnb60 := NB249_0.out
       have hnc60 := NB0_249.out
       have hcz61_0 : w58.cell? ⟨gb249, 0, none⟩ = some (.slice none 0 0) := (blk_cell BK249.out 0).trans rfl
       have hcz61_1 : w58.cell? ⟨gb249, 1, none⟩ = some (.slice none 0 0) := (blk_cell BK249.out 1).trans rfl
       have hfz61_0 := blk_frozen BK249.out 0
       have hfz61_1 := blk_frozen BK249.out 1
       try go_wp2
       refine bodyPost_ret (results_cell_row rfl _ _ gb249 26 #[.slice Ao47 t250.length co47, .slice (some ⟨go43, 0, none⟩) t253.length co51] (0, 0) _ rfl (by refine kU ?_; refine blk_put (cs := #[.slice Ao47 t250.length co47, .slice none 0 0]) ?_ 1 _ rfl; refine kU ?_; refine blk_put (cs := #[.slice none 0 0, .slice none 0 0]) ?_ 0 _ rfl; refine kU ?_; exact BK249.out) Try.underlying26 rfl (by kernel_rfl)) rfl ?_
       exact ⟨_, _, by first | rfl | (simp [errW_none, errW_some] <;> rfl) | (simp [*, errW_none, errW_some] <;> rfl), by refine RU ?_; exact Kd.R_mono (Kd.R_far (p := ⟨gb249, 1, none⟩) (Kd.R_far (p := ⟨gb249, 0, none⟩) (Kd.R_types HO252.out BK249.out (by decide)) (fun _ hk => hk.2) (.slice Ao47 t250.length co47)) (fun _ hk => hk.2) (.slice (some ⟨go43, 0, none⟩) t253.length co51)) (fun _ hk => hk.1), by refine RU ?_; exact Kd.R_mono (Kd.R_far (p := ⟨gb249, 1, none⟩) (Kd.R_far (p := ⟨gb249, 0, none⟩) (Kd.R_types HO255.out BK249.out (by decide)) (fun _ hk => hk.2) (.slice Ao47 t250.length co47)) (fun _ hk => hk.2) (.slice (some ⟨go43, 0, none⟩) t253.length co51)) (fun _ hk => hk.1), by repeat (first | (with_reducible first | exact HI0.out | apply IsS56.alloc | apply IsS56.drewN | apply IsS56.drew | apply IsS56.set_1 | apply IsS56.set_2 | refine IsS56.far ?_ NB0_249.out _ | refine IsS56.far ?_ NB0_258.out _) | exact HI0.out), by repeat (first | (with_reducible first | exact HB.out | apply below_alloc | apply pw_below_drewN | apply below_drew1 | refine below_set ?_ (IsS56.ge HI0.out) | refine below_set ?_ GE249.out | refine below_set ?_ GE258.out) | exact HB.out), by repeat (first | (with_reducible first | exact HK.out | apply KeepBut.set_ | apply keep_drewN | apply keep_drew | apply keep_alloc | refine keep_far ?_ GW249.out _ | refine keep_far ?_ GW258.out _) | exact HK.out)⟩
      ·
       rw [if_neg c42] at H
       exact absurd H (by simp)
     ·
      rw [if_neg c41] at H
      exact absurd H (by simp)
    ·
     rw [if_neg c38] at H
     have c38b0 : decide (0 < (t253.length : Int)) = false := decide_eq_false c38
     have c38b1 : decide (0 < t253.length) = false := decide_eq_false (by omega)
     clear c38
     simp only [Option.some.injEq, Prod.mk.injEq] at H
     obtain ⟨rfl, rfl, rfl, rfl⟩ := H
     go_enter Try.func13, Try.ntmps13
     go_wp2_with (first | ((with_reducible refine gate_dst (N := 2) rfl ?_); refine box_event ?hg (N := 2) ?hd (cs := #[.slice none 0 0, .slice none 0 0]) (t := 26) ?hr ?_; (case hd => rfl); (case hg => rfl); (case hr => first | (go_simp; done) | (go_simp; rfl)); intro gb249 hg w62 hbox hb; replace HB := Aside0.mk (below_step (by repeat (first | (with_reducible first | exact HB.out | apply below_alloc | apply pw_below_drewN | apply below_drew1 | refine below_set ?_ (IsS56.ge HI0.out)) | exact HB.out)) hb); have BK249 := Aside0.mk (hbox); have GW249 := Aside0.mk ((by rw [hg]; exact (keep_size (w := w) (g := g) (row := none) (hU HK.out)) : w.heap.size ≤ gb249)); have GE249 := Aside0.mk ((Nat.le_trans HW0.out (by rw [hg]; exact (keep_size (w := w) (g := g) (row := none) (hU HK.out)) : w.heap.size ≤ gb249) : w0.heap.size ≤ gb249)); replace HK := Aside0.mk (KeepBut.trans (hU HK.out) (KeepBut.of_below hb g none) (.inl rfl)); have NB0_249 := Aside0.mk ((by rw [hg]; exact Nat.ne_of_lt (IsS56.lt (show IsS56 w0 _ g s0_0 s0_1 s0_2 from by exact iU0 HI0.out)) : g ≠ gb249)); have NB249_0 := Aside0.mk ((by rw [hg]; exact Nat.ne_of_gt (IsS56.lt (show IsS56 w0 _ g s0_0 s0_1 s0_2 from by exact iU0 HI0.out)) : gb249 ≠ g)); replace HI0 := Aside0.mk (IsS56.below (iU0 HI0.out) hb); clear hb hbox hg) | ((with_reducible refine gate_callee (f := 30) rfl ?_); refine goesL_ (some 5) rfl rfl Try.func30 (by kernel_rfl) rfl #[.pointer (some ⟨g, 0, none⟩)] rfl lU ?_; (with_reducible refine (spec_l3DrawRight.calls k g s0_0 s0_1 s0_2 t250 t253 t256 t257 w0 _ ?side1 ?side2 A2.out).mono ?_); (case side1 => repeat (first | (with_reducible first | exact HI0.out | apply IsS56.alloc | apply IsS56.drewN | apply IsS56.drew | apply IsS56.set_1 | apply IsS56.set_2 | refine IsS56.far ?_ NB0_249.out _) | exact HI0.out)); (case side2 => repeat (first | (with_reducible first | exact HB.out | apply below_alloc | apply pw_below_drewN | apply below_drew1 | refine below_set ?_ (IsS56.ge HI0.out) | refine below_set ?_ GE249.out) | exact HB.out)); rintro e w63 ⟨v251, v254, rfl, ho0, ho1, hi, hb, hk⟩; refine ⟨_, rfl, ?_⟩; replace BK249 := Aside0.mk (KeepBut.blk hk (g' := gb249) (o := .cells #[.slice none 0 0, .slice none 0 0] 26 (0, 0)) (kU BK249.out) NB249_0.out (by simp)); have HO252 := Aside0.mk (Kd.R_lower ho0 (keep_size (w := w) (g := g) (row := none) (by repeat (first | (with_reducible first | exact HK.out | apply KeepBut.set_ | apply keep_drewN | apply keep_drew | apply keep_alloc | refine keep_far ?_ GW249.out _) | exact HK.out)))); have HO255 := Aside0.mk (Kd.R_lower ho1 (keep_size (w := w) (g := g) (row := none) (by repeat (first | (with_reducible first | exact HK.out | apply KeepBut.set_ | apply keep_drewN | apply keep_drew | apply keep_alloc | refine keep_far ?_ GW249.out _) | exact HK.out)))); replace HK := Aside0.mk (KeepBut.trans (by repeat (first | (with_reducible first | exact HK.out | apply KeepBut.set_ | apply keep_drewN | apply keep_drew | apply keep_alloc | refine keep_far ?_ GW249.out _) | exact HK.out)) hk (.inl rfl)); replace HB := Aside0.mk (hb); replace HI0 := Aside0.mk (hi); (try clear hb); (try clear hb2); (try clear hk); (try clear hi); (try clear ho0); (try clear ho1)) | ((with_reducible refine gate_dst (N := 3) rfl ?_); refine box_event ?hg (N := 3) ?hd (cs := #[.slice none 0 0, .slice none 0 0]) (t := 26) ?hr ?_; (case hd => rfl); (case hg => rfl); (case hr => first | (go_simp; done) | (go_simp; rfl)); intro gb258 hg w64 hbox hb; replace HO252 := Aside0.mk (Kd.R_below (RU HO252.out) hb); replace HO255 := Aside0.mk (Kd.R_below (RU HO255.out) hb); replace HB := Aside0.mk (below_step (by repeat (first | (with_reducible first | exact HB.out | apply below_alloc | apply pw_below_drewN | apply below_drew1 | refine below_set ?_ (IsS56.ge HI0.out) | refine below_set ?_ GE249.out) | exact HB.out)) hb); have BK258 := Aside0.mk (hbox); have GW258 := Aside0.mk ((by rw [hg]; exact (keep_size (w := w) (g := g) (row := none) (by repeat (first | (with_reducible first | exact HK.out | apply KeepBut.set_ | apply keep_drewN | apply keep_drew | apply keep_alloc | refine keep_far ?_ GW249.out _) | exact HK.out))) : w.heap.size ≤ gb258)); have GE258 := Aside0.mk ((Nat.le_trans HW0.out (by rw [hg]; exact (keep_size (w := w) (g := g) (row := none) (by repeat (first | (with_reducible first | exact HK.out | apply KeepBut.set_ | apply keep_drewN | apply keep_drew | apply keep_alloc | refine keep_far ?_ GW249.out _) | exact HK.out))) : w.heap.size ≤ gb258) : w0.heap.size ≤ gb258)); replace HK := Aside0.mk (KeepBut.trans (by repeat (first | (with_reducible first | exact HK.out | apply KeepBut.set_ | apply keep_drewN | apply keep_drew | apply keep_alloc | refine keep_far ?_ GW249.out _) | exact HK.out)) (KeepBut.of_below hb g none) (.inl rfl)); have NB249_258 := Aside0.mk (kN BK249.out hg); have NB258_249 := Aside0.mk (kM BK249.out hg); replace BK249 := Aside0.mk (kB BK249.out hb); have NB0_258 := Aside0.mk ((by rw [hg]; exact Nat.ne_of_lt (IsS56.lt (show IsS56 w0 _ g s0_0 t256 t257 from by repeat (first | (with_reducible first | exact HI0.out | apply IsS56.alloc | apply IsS56.drewN | apply IsS56.drew | apply IsS56.set_1 | apply IsS56.set_2 | refine IsS56.far ?_ NB0_249.out _) | exact HI0.out))) : g ≠ gb258)); have NB258_0 := Aside0.mk ((by rw [hg]; exact Nat.ne_of_gt (IsS56.lt (show IsS56 w0 _ g s0_0 t256 t257 from by repeat (first | (with_reducible first | exact HI0.out | apply IsS56.alloc | apply IsS56.drewN | apply IsS56.drew | apply IsS56.set_1 | apply IsS56.set_2 | refine IsS56.far ?_ NB0_249.out _) | exact HI0.out))) : gb258 ≠ g)); replace HI0 := Aside0.mk (IsS56.below (by repeat (first | (with_reducible first | exact HI0.out | apply IsS56.alloc | apply IsS56.drewN | apply IsS56.drew | apply IsS56.set_1 | apply IsS56.set_2 | refine IsS56.far ?_ NB0_249.out _) | exact HI0.out)) hb); clear hb hbox hg; obtain ⟨Ao65, co65, eo65⟩ := Kd.R_slice HO252.out; subst eo65; have hnb66 := NB258_249.out; have hnc66 := NB249_258.out; have hnb67 := NB258_0.out; have hnc67 := NB0_258.out; have hcz68_0 : w64.cell? ⟨gb258, 0, none⟩ = some (.slice none 0 0) := (blk_cell BK258.out 0).trans rfl; have hcz68_1 : w64.cell? ⟨gb258, 1, none⟩ = some (.slice none 0 0) := (blk_cell BK258.out 1).trans rfl; have hfz68_0 := blk_frozen BK258.out 0; have hfz68_1 := blk_frozen BK258.out 1; obtain ⟨Ao69, co69, eo69⟩ := Kd.R_slice HO255.out; subst eo69) | ((with_reducible refine gate_callee (f := 31) rfl ?_); refine goesL_ (some 7) rfl rfl Try.func31 (by kernel_rfl) rfl #[.pointer (some ⟨g, 0, none⟩), .int .i64 20] rfl lU ?_; (with_reducible refine (spec_l1Below.calls g s0_0 t256 t257 20 t259 t260 t261 w0 _ ?side1 ?side2 A3.out).mono ?_); (case side1 => repeat (first | (with_reducible first | exact HI0.out | apply IsS56.alloc | apply IsS56.drewN | apply IsS56.drew | apply IsS56.set_1 | apply IsS56.set_2 | refine IsS56.far ?_ NB0_249.out _ | refine IsS56.far ?_ NB0_258.out _) | exact HI0.out)); (case side2 => repeat (first | (with_reducible first | exact HB.out | apply below_alloc | apply pw_below_drewN | apply below_drew1 | refine below_set ?_ (IsS56.ge HI0.out) | refine below_set ?_ GE249.out | refine below_set ?_ GE258.out) | exact HB.out)); rintro e w70 ⟨rfl, hi, hb, hk⟩; refine ⟨_, rfl, ?_⟩; replace BK249 := Aside0.mk (KeepBut.blk hk (g' := gb249) (o := .cells #[.slice none 0 0, .slice none 0 0] 26 (0, 0)) (by refine kU ?_; refine blk_far ?_ NB249_258.out _; refine kU ?_; refine blk_far ?_ NB249_258.out _; refine kU ?_; exact BK249.out) NB249_0.out (by simp)); replace HO252 := Aside0.mk (Kd.R_mono (Kd.R_keep (IsS56.apart (show IsS56 w0 _ g s0_0 t256 t257 from by repeat (first | (with_reducible first | exact HI0.out | apply IsS56.alloc | apply IsS56.drewN | apply IsS56.drew | apply IsS56.set_1 | apply IsS56.set_2 | refine IsS56.far ?_ NB0_249.out _ | refine IsS56.far ?_ NB0_258.out _) | exact HI0.out)) (by refine RU ?_; exact (far2 HO252.out BK258.out)) (by decide)) hk (fun _ h => h.2)) (fun _ h => h.1)); replace HO255 := Aside0.mk (Kd.R_mono (Kd.R_keep (IsS56.apart (show IsS56 w0 _ g s0_0 t256 t257 from by repeat (first | (with_reducible first | exact HI0.out | apply IsS56.alloc | apply IsS56.drewN | apply IsS56.drew | apply IsS56.set_1 | apply IsS56.set_2 | refine IsS56.far ?_ NB0_249.out _ | refine IsS56.far ?_ NB0_258.out _) | exact HI0.out)) (by refine RU ?_; exact (far2 HO255.out BK258.out)) (by decide)) hk (fun _ h => h.2)) (fun _ h => h.1)); replace BK258 := Aside0.mk (KeepBut.blk hk (g' := gb258) (o := .cells #[.slice Ao65 t250.length co65, .slice Ao69 t253.length co69] 26 (0, 0)) (by refine kU ?_; refine blk_put (cs := #[.slice Ao65 t250.length co65, .slice none 0 0]) ?_ 1 _ rfl; refine kU ?_; refine blk_put (cs := #[.slice none 0 0, .slice none 0 0]) ?_ 0 _ rfl; refine kU ?_; exact BK258.out) NB258_0.out (by simp)); replace HK := Aside0.mk (KeepBut.trans (by repeat (first | (with_reducible first | exact HK.out | apply KeepBut.set_ | apply keep_drewN | apply keep_drew | apply keep_alloc | refine keep_far ?_ GW249.out _ | refine keep_far ?_ GW258.out _) | exact HK.out)) hk (.inl rfl)); replace HB := Aside0.mk (hb); replace HI0 := Aside0.mk (hi); (try clear hb); (try clear hb2); (try clear hk); (try clear hi); have hcz71_0 : w70.cell? ⟨gb258, 0, none⟩ = some (.slice Ao65 t250.length co65) := (blk_cell BK258.out 0).trans rfl; have hcz71_1 : w70.cell? ⟨gb258, 1, none⟩ = some (.slice Ao69 t253.length co69) := (blk_cell BK258.out 1).trans rfl; have hfz71_0 := blk_frozen BK258.out 0; have hfz71_1 := blk_frozen BK258.out 1; have hnb72 := NB249_0.out; have hnc72 := NB0_249.out; have hcz73_0 : w70.cell? ⟨gb249, 0, none⟩ = some (.slice none 0 0) := (blk_cell BK249.out 0).trans rfl; have hcz73_1 : w70.cell? ⟨gb249, 1, none⟩ = some (.slice none 0 0) := (blk_cell BK249.out 1).trans rfl; have hfz73_0 := blk_frozen BK249.out 0; have hfz73_1 := blk_frozen BK249.out 1))
     refine bodyPost_ret (results_cell_row rfl _ _ gb249 26 #[.slice Ao65 t250.length co65, .slice Ao69 t253.length co69] (0, 0) _ rfl (by refine kU ?_; refine blk_put (cs := #[.slice Ao65 t250.length co65, .slice none 0 0]) ?_ 1 _ rfl; refine kU ?_; refine blk_put (cs := #[.slice none 0 0, .slice none 0 0]) ?_ 0 _ rfl; refine kU ?_; exact BK249.out) Try.underlying26 rfl (by kernel_rfl)) rfl ?_
     exact ⟨_, _, by first | rfl | (simp [errW_none, errW_some] <;> rfl) | (simp [*, errW_none, errW_some] <;> rfl), by refine RU ?_; exact Kd.R_mono (Kd.R_far (p := ⟨gb249, 1, none⟩) (Kd.R_far (p := ⟨gb249, 0, none⟩) (Kd.R_types HO252.out BK249.out (by decide)) (fun _ hk => hk.2) (.slice Ao65 t250.length co65)) (fun _ hk => hk.2) (.slice Ao69 t253.length co69)) (fun _ hk => hk.1), by refine RU ?_; exact Kd.R_mono (Kd.R_far (p := ⟨gb249, 1, none⟩) (Kd.R_far (p := ⟨gb249, 0, none⟩) (Kd.R_types HO255.out BK249.out (by decide)) (fun _ hk => hk.2) (.slice Ao65 t250.length co65)) (fun _ hk => hk.2) (.slice Ao69 t253.length co69)) (fun _ hk => hk.1), by repeat (first | (with_reducible first | exact HI0.out | apply IsS56.alloc | apply IsS56.drewN | apply IsS56.drew | apply IsS56.set_1 | apply IsS56.set_2 | refine IsS56.far ?_ NB0_249.out _ | refine IsS56.far ?_ NB0_258.out _) | exact HI0.out), by repeat (first | (with_reducible first | exact HB.out | apply below_alloc | apply pw_below_drewN | apply below_drew1 | refine below_set ?_ (IsS56.ge HI0.out) | refine below_set ?_ GE249.out | refine below_set ?_ GE258.out) | exact HB.out), by repeat (first | (with_reducible first | exact HK.out | apply KeepBut.set_ | apply keep_drewN | apply keep_drew | apply keep_alloc | refine keep_far ?_ GW249.out _ | refine keep_far ?_ GW258.out _) | exact HK.out)⟩
   ·
    rw [if_neg c37] at H
    have c37b0 : (t259 == 2) = false := beq_eq_false_iff_ne.mpr c37
    have c37b1 : (t259 != 2) = true := bne_iff_ne.mpr c37
    by_cases c74 : t259 = 3
    ·
     rw [if_pos c74] at H
     have c74b0 : (t259 == 3) = true := beq_iff_eq.mpr c74
     have c74b1 : (t259 != 3) = false := bne_eq_false_iff_eq.mpr c74
     clear c74
     obtain ⟨y277, hy277⟩ : ∃ y_ : List Int, y_ = (([300] : List Int)) := ⟨_, rfl⟩
     replace H : ((spec_l1Below.f s0_0 t260 t261 2).bind fun bt280 => (if 0 ≤ (wrap64 (300 + bt280.1)) then (if (wrap64 (300 + bt280.1) : Int).toNat ≤ 35184372088832 then (some (y277, (List.replicate (wrap64 (300 + bt280.1) : Int).toNat 0), bt280.2.1, bt280.2.2)) else (none)) else (none))) = some (r1, r2, r3, r4) := by first | (rw [hy277]; with_reducible exact H) | (have H2_ := (Option.bind_some _ _).symm.trans H; rw [hy277]; with_reducible exact H2_) | (have H2_ := (Option.bind_some _ _).symm.trans H; with_reducible exact H2_) | with_reducible exact H | (rw [hy277]; exact H) | exact H
     have Ny277 := Aside0.mk hy277
     clear hy277
     replace H := Option.bind_eq_some_iff.mp H
     obtain ⟨⟨t280, t281, t282⟩, A750, H⟩ := H
     replace H : (if 0 ≤ (wrap64 (300 + t280)) then (if (wrap64 (300 + t280) : Int).toNat ≤ 35184372088832 then (some (y277, (List.replicate (wrap64 (300 + t280) : Int).toNat 0), t281, t282)) else (none)) else (none)) = some (r1, r2, r3, r4) := H
     have A75 := Aside0.mk A750
     clear A750
     obtain ⟨ji76, hji76⟩ : ∃ j_ : Int, (wrap64 (300 + t280)) = j_ := ⟨_, rfl⟩
     replace H : (if 0 ≤ (ji76) then (if (ji76 : Int).toNat ≤ 35184372088832 then (some (y277, (List.replicate (ji76 : Int).toNat 0), t281, t282)) else (none)) else (none)) = some (r1, r2, r3, r4) := by first | (rw [hji76] at H; exact H) | (simp only [hji76] at H ⊢; exact H)
     (try rw [hji76] at A2)
     (try rw [hji76] at A3)
     (try rw [hji76] at A75)
     have hji76w : (IntKind.i64.wrap (300 + t280)) = ji76 := (i64_w _).trans hji76
     by_cases c77 : 0 ≤ (ji76)
     ·
      rw [if_pos c77] at H
      have c77b0 := eq_true c77
      have c77b1 : decide (0 ≤ (ji76)) = true := decide_eq_true c77
      clear c77
      by_cases c78 : (ji76 : Int).toNat ≤ 35184372088832
      ·
       rw [if_pos c78] at H
       have c78b0 := eq_true c78
       have c78b1 : decide ((ji76 : Int).toNat ≤ 35184372088832) = true := decide_eq_true c78
       clear c78
       obtain ⟨y283, hy283⟩ : ∃ y_ : List Int, y_ = (List.replicate (ji76 : Int).toNat 0) := ⟨_, rfl⟩
       replace H : (some (y277, y283, t281, t282)) = some (r1, r2, r3, r4) := by first | (rw [hy283]; with_reducible exact H) | (have H2_ := (Option.bind_some _ _).symm.trans H; rw [hy283]; with_reducible exact H2_) | (have H2_ := (Option.bind_some _ _).symm.trans H; with_reducible exact H2_) | with_reducible exact H | (rw [hy283]; exact H) | exact H
       have Ny283 := Aside0.mk hy283
       clear hy283
       simp only [Option.some.injEq, Prod.mk.injEq] at H
       obtain ⟨rfl, rfl, rfl, rfl⟩ := H
       go_enter Try.func13, Try.ntmps13
       go_wp2_with (first | ((with_reducible refine gate_dst (N := 2) rfl ?_); refine box_event ?hg (N := 2) ?hd (cs := #[.slice none 0 0, .slice none 0 0]) (t := 26) ?hr ?_; (case hd => rfl); (case hg => rfl); (case hr => first | (go_simp; done) | (go_simp; rfl)); intro gb249 hg w79 hbox hb; replace HB := Aside0.mk (below_step (by repeat (first | (with_reducible first | exact HB.out | apply below_alloc | apply pw_below_drewN | apply below_drew1 | refine below_set ?_ (IsS56.ge HI0.out)) | exact HB.out)) hb); have BK249 := Aside0.mk (hbox); have GW249 := Aside0.mk ((by rw [hg]; exact (keep_size (w := w) (g := g) (row := none) (hU HK.out)) : w.heap.size ≤ gb249)); have GE249 := Aside0.mk ((Nat.le_trans HW0.out (by rw [hg]; exact (keep_size (w := w) (g := g) (row := none) (hU HK.out)) : w.heap.size ≤ gb249) : w0.heap.size ≤ gb249)); replace HK := Aside0.mk (KeepBut.trans (hU HK.out) (KeepBut.of_below hb g none) (.inl rfl)); have NB0_249 := Aside0.mk ((by rw [hg]; exact Nat.ne_of_lt (IsS56.lt (show IsS56 w0 _ g s0_0 s0_1 s0_2 from by exact iU0 HI0.out)) : g ≠ gb249)); have NB249_0 := Aside0.mk ((by rw [hg]; exact Nat.ne_of_gt (IsS56.lt (show IsS56 w0 _ g s0_0 s0_1 s0_2 from by exact iU0 HI0.out)) : gb249 ≠ g)); replace HI0 := Aside0.mk (IsS56.below (iU0 HI0.out) hb); clear hb hbox hg) | ((with_reducible refine gate_callee (f := 30) rfl ?_); refine goesL_ (some 5) rfl rfl Try.func30 (by kernel_rfl) rfl #[.pointer (some ⟨g, 0, none⟩)] rfl lU ?_; (with_reducible refine (spec_l3DrawRight.calls k g s0_0 s0_1 s0_2 t250 t253 t256 t257 w0 _ ?side1 ?side2 A2.out).mono ?_); (case side1 => repeat (first | (with_reducible first | exact HI0.out | apply IsS56.alloc | apply IsS56.drewN | apply IsS56.drew | apply IsS56.set_1 | apply IsS56.set_2 | refine IsS56.far ?_ NB0_249.out _) | exact HI0.out)); (case side2 => repeat (first | (with_reducible first | exact HB.out | apply below_alloc | apply pw_below_drewN | apply below_drew1 | refine below_set ?_ (IsS56.ge HI0.out) | refine below_set ?_ GE249.out) | exact HB.out)); rintro e w80 ⟨v251, v254, rfl, ho0, ho1, hi, hb, hk⟩; refine ⟨_, rfl, ?_⟩; replace BK249 := Aside0.mk (KeepBut.blk hk (g' := gb249) (o := .cells #[.slice none 0 0, .slice none 0 0] 26 (0, 0)) (kU BK249.out) NB249_0.out (by simp)); have HO252 := Aside0.mk (Kd.R_lower ho0 (keep_size (w := w) (g := g) (row := none) (by repeat (first | (with_reducible first | exact HK.out | apply KeepBut.set_ | apply keep_drewN | apply keep_drew | apply keep_alloc | refine keep_far ?_ GW249.out _) | exact HK.out)))); have HO255 := Aside0.mk (Kd.R_lower ho1 (keep_size (w := w) (g := g) (row := none) (by repeat (first | (with_reducible first | exact HK.out | apply KeepBut.set_ | apply keep_drewN | apply keep_drew | apply keep_alloc | refine keep_far ?_ GW249.out _) | exact HK.out)))); replace HK := Aside0.mk (KeepBut.trans (by repeat (first | (with_reducible first | exact HK.out | apply KeepBut.set_ | apply keep_drewN | apply keep_drew | apply keep_alloc | refine keep_far ?_ GW249.out _) | exact HK.out)) hk (.inl rfl)); replace HB := Aside0.mk (hb); replace HI0 := Aside0.mk (hi); (try clear hb); (try clear hb2); (try clear hk); (try clear hi); (try clear ho0); (try clear ho1)) | ((with_reducible refine gate_dst (N := 3) rfl ?_); refine box_event ?hg (N := 3) ?hd (cs := #[.slice none 0 0, .slice none 0 0]) (t := 26) ?hr ?_; (case hd => rfl); (case hg => rfl); (case hr => first | (go_simp; done) | (go_simp; rfl)); intro gb258 hg w81 hbox hb; replace HO252 := Aside0.mk (Kd.R_below (RU HO252.out) hb); replace HO255 := Aside0.mk (Kd.R_below (RU HO255.out) hb); replace HB := Aside0.mk (below_step (by repeat (first | (with_reducible first | exact HB.out | apply below_alloc | apply pw_below_drewN | apply below_drew1 | refine below_set ?_ (IsS56.ge HI0.out) | refine below_set ?_ GE249.out) | exact HB.out)) hb); have BK258 := Aside0.mk (hbox); have GW258 := Aside0.mk ((by rw [hg]; exact (keep_size (w := w) (g := g) (row := none) (by repeat (first | (with_reducible first | exact HK.out | apply KeepBut.set_ | apply keep_drewN | apply keep_drew | apply keep_alloc | refine keep_far ?_ GW249.out _) | exact HK.out))) : w.heap.size ≤ gb258)); have GE258 := Aside0.mk ((Nat.le_trans HW0.out (by rw [hg]; exact (keep_size (w := w) (g := g) (row := none) (by repeat (first | (with_reducible first | exact HK.out | apply KeepBut.set_ | apply keep_drewN | apply keep_drew | apply keep_alloc | refine keep_far ?_ GW249.out _) | exact HK.out))) : w.heap.size ≤ gb258) : w0.heap.size ≤ gb258)); replace HK := Aside0.mk (KeepBut.trans (by repeat (first | (with_reducible first | exact HK.out | apply KeepBut.set_ | apply keep_drewN | apply keep_drew | apply keep_alloc | refine keep_far ?_ GW249.out _) | exact HK.out)) (KeepBut.of_below hb g none) (.inl rfl)); have NB249_258 := Aside0.mk (kN BK249.out hg); have NB258_249 := Aside0.mk (kM BK249.out hg); replace BK249 := Aside0.mk (kB BK249.out hb); have NB0_258 := Aside0.mk ((by rw [hg]; exact Nat.ne_of_lt (IsS56.lt (show IsS56 w0 _ g s0_0 t256 t257 from by repeat (first | (with_reducible first | exact HI0.out | apply IsS56.alloc | apply IsS56.drewN | apply IsS56.drew | apply IsS56.set_1 | apply IsS56.set_2 | refine IsS56.far ?_ NB0_249.out _) | exact HI0.out))) : g ≠ gb258)); have NB258_0 := Aside0.mk ((by rw [hg]; exact Nat.ne_of_gt (IsS56.lt (show IsS56 w0 _ g s0_0 t256 t257 from by repeat (first | (with_reducible first | exact HI0.out | apply IsS56.alloc | apply IsS56.drewN | apply IsS56.drew | apply IsS56.set_1 | apply IsS56.set_2 | refine IsS56.far ?_ NB0_249.out _) | exact HI0.out))) : gb258 ≠ g)); replace HI0 := Aside0.mk (IsS56.below (by repeat (first | (with_reducible first | exact HI0.out | apply IsS56.alloc | apply IsS56.drewN | apply IsS56.drew | apply IsS56.set_1 | apply IsS56.set_2 | refine IsS56.far ?_ NB0_249.out _) | exact HI0.out)) hb); clear hb hbox hg; obtain ⟨Ao82, co82, eo82⟩ := Kd.R_slice HO252.out; subst eo82; have hnb83 := NB258_249.out; have hnc83 := NB249_258.out; have hnb84 := NB258_0.out; have hnc84 := NB0_258.out; have hcz85_0 : w81.cell? ⟨gb258, 0, none⟩ = some (.slice none 0 0) := (blk_cell BK258.out 0).trans rfl; have hcz85_1 : w81.cell? ⟨gb258, 1, none⟩ = some (.slice none 0 0) := (blk_cell BK258.out 1).trans rfl; have hfz85_0 := blk_frozen BK258.out 0; have hfz85_1 := blk_frozen BK258.out 1; obtain ⟨Ao86, co86, eo86⟩ := Kd.R_slice HO255.out; subst eo86) | ((with_reducible refine gate_callee (f := 31) rfl ?_); refine goesL_ (some 7) rfl rfl Try.func31 (by kernel_rfl) rfl #[.pointer (some ⟨g, 0, none⟩), .int .i64 20] rfl lU ?_; (with_reducible refine (spec_l1Below.calls g s0_0 t256 t257 20 t259 t260 t261 w0 _ ?side1 ?side2 A3.out).mono ?_); (case side1 => repeat (first | (with_reducible first | exact HI0.out | apply IsS56.alloc | apply IsS56.drewN | apply IsS56.drew | apply IsS56.set_1 | apply IsS56.set_2 | refine IsS56.far ?_ NB0_249.out _ | refine IsS56.far ?_ NB0_258.out _) | exact HI0.out)); (case side2 => repeat (first | (with_reducible first | exact HB.out | apply below_alloc | apply pw_below_drewN | apply below_drew1 | refine below_set ?_ (IsS56.ge HI0.out) | refine below_set ?_ GE249.out | refine below_set ?_ GE258.out) | exact HB.out)); rintro e w87 ⟨rfl, hi, hb, hk⟩; refine ⟨_, rfl, ?_⟩; replace BK249 := Aside0.mk (KeepBut.blk hk (g' := gb249) (o := .cells #[.slice none 0 0, .slice none 0 0] 26 (0, 0)) (by refine kU ?_; refine blk_far ?_ NB249_258.out _; refine kU ?_; refine blk_far ?_ NB249_258.out _; refine kU ?_; exact BK249.out) NB249_0.out (by simp)); replace HO252 := Aside0.mk (Kd.R_mono (Kd.R_keep (IsS56.apart (show IsS56 w0 _ g s0_0 t256 t257 from by repeat (first | (with_reducible first | exact HI0.out | apply IsS56.alloc | apply IsS56.drewN | apply IsS56.drew | apply IsS56.set_1 | apply IsS56.set_2 | refine IsS56.far ?_ NB0_249.out _ | refine IsS56.far ?_ NB0_258.out _) | exact HI0.out)) (by refine RU ?_; exact (far2 HO252.out BK258.out)) (by decide)) hk (fun _ h => h.2)) (fun _ h => h.1)); replace HO255 := Aside0.mk (Kd.R_mono (Kd.R_keep (IsS56.apart (show IsS56 w0 _ g s0_0 t256 t257 from by repeat (first | (with_reducible first | exact HI0.out | apply IsS56.alloc | apply IsS56.drewN | apply IsS56.drew | apply IsS56.set_1 | apply IsS56.set_2 | refine IsS56.far ?_ NB0_249.out _ | refine IsS56.far ?_ NB0_258.out _) | exact HI0.out)) (by refine RU ?_; exact (far2 HO255.out BK258.out)) (by decide)) hk (fun _ h => h.2)) (fun _ h => h.1)); replace BK258 := Aside0.mk (KeepBut.blk hk (g' := gb258) (o := .cells #[.slice Ao82 t250.length co82, .slice Ao86 t253.length co86] 26 (0, 0)) (by refine kU ?_; refine blk_put (cs := #[.slice Ao82 t250.length co82, .slice none 0 0]) ?_ 1 _ rfl; refine kU ?_; refine blk_put (cs := #[.slice none 0 0, .slice none 0 0]) ?_ 0 _ rfl; refine kU ?_; exact BK258.out) NB258_0.out (by simp)); replace HK := Aside0.mk (KeepBut.trans (by repeat (first | (with_reducible first | exact HK.out | apply KeepBut.set_ | apply keep_drewN | apply keep_drew | apply keep_alloc | refine keep_far ?_ GW249.out _ | refine keep_far ?_ GW258.out _) | exact HK.out)) hk (.inl rfl)); replace HB := Aside0.mk (hb); replace HI0 := Aside0.mk (hi); (try clear hb); (try clear hb2); (try clear hk); (try clear hi)) | ((with_reducible refine gate_dst (N := 38) rfl ?_); refine Kd.R_lit (Kd.int .i64) _ 3 ?hg (N := 38) ?hd (xs := ([300] : List Int)) (inner := [.int .i64 300]) (ok := fun _ => True) (okp := fun _ => True) ?hr ?hp (fun _ hk => hk) trivial (Below.refl _ _) (Nat.le_refl _) (by simp) ?_; (case hd => rfl); (case hg => rfl); (case hr => first | (go_simp; done) | (go_simp; rfl)); (case hp => exact (Reps.one (show Kd.M (Kd.int .i64) _ _ _ 300 [.int .i64 300] from rfl) (Reps.none _ _))); intro v278 w88 ho89 hb hg_ hnew_; clear hg_ hnew_; (first | rw [← Ny277.out] at ho89 | (simp only [Int.reduceToNat] at ho89; rw [← Ny277.out] at ho89)); have HO279 := Aside0.mk (Kd.R_lower (Kd.R_new' (Kd.R_new' ho89 (Kd.R_lt (RU HO252.out))) (Kd.R_lt (RU HO255.out))) (keep_size (w := w) (g := g) (row := none) (by repeat (first | (with_reducible first | exact HK.out | apply KeepBut.set_ | apply keep_drewN | apply keep_drew | apply keep_alloc | refine keep_far ?_ GW249.out _ | refine keep_far ?_ GW258.out _) | exact HK.out)))); replace HO252 := Aside0.mk (Kd.R_elder' (RU HO252.out) (Kd.R_base ho89) hb); replace HO255 := Aside0.mk (Kd.R_elder' (RU HO255.out) (Kd.R_base ho89) hb); replace BK249 := Aside0.mk (kB BK249.out hb); replace BK258 := Aside0.mk (kB BK258.out hb); replace HK := Aside0.mk (KeepBut.trans (by repeat (first | (with_reducible first | exact HK.out | apply KeepBut.set_ | apply keep_drewN | apply keep_drew | apply keep_alloc | refine keep_far ?_ GW249.out _ | refine keep_far ?_ GW258.out _) | exact HK.out)) (KeepBut.of_below hb g none) (.inl rfl)); replace HB := Aside0.mk (below_step (by repeat (first | (with_reducible first | exact HB.out | apply below_alloc | apply pw_below_drewN | apply below_drew1 | refine below_set ?_ (IsS56.ge HI0.out) | refine below_set ?_ GE249.out | refine below_set ?_ GE258.out) | exact HB.out)) hb); replace HI0 := Aside0.mk (IsS56.below (by repeat (first | (with_reducible first | exact HI0.out | apply IsS56.alloc | apply IsS56.drewN | apply IsS56.drew | apply IsS56.set_1 | apply IsS56.set_2 | refine IsS56.far ?_ NB0_249.out _ | refine IsS56.far ?_ NB0_258.out _) | exact HI0.out)) hb); clear hb ho89) | ((with_reducible refine gate_callee (f := 31) rfl ?_); refine goesL_ (some 40) rfl rfl Try.func31 (by kernel_rfl) rfl #[.pointer (some ⟨g, 0, none⟩), .int .i64 2] rfl lU ?_; (with_reducible refine (spec_l1Below.calls g s0_0 t260 t261 2 t280 t281 t282 w0 _ ?side1 ?side2 A75.out).mono ?_); (case side1 => repeat (first | (with_reducible first | exact HI0.out | apply IsS56.alloc | apply IsS56.drewN | apply IsS56.drew | apply IsS56.set_1 | apply IsS56.set_2 | refine IsS56.far ?_ NB0_249.out _ | refine IsS56.far ?_ NB0_258.out _) | exact HI0.out)); (case side2 => repeat (first | (with_reducible first | exact HB.out | apply below_alloc | apply pw_below_drewN | apply below_drew1 | refine below_set ?_ (IsS56.ge HI0.out) | refine below_set ?_ GE249.out | refine below_set ?_ GE258.out) | exact HB.out)); rintro e w90 ⟨rfl, hi, hb, hk⟩; refine ⟨_, rfl, ?_⟩; replace BK249 := Aside0.mk (KeepBut.blk hk (g' := gb249) (o := .cells #[.slice none 0 0, .slice none 0 0] 26 (0, 0)) (kU BK249.out) NB249_0.out (by simp)); replace HO252 := Aside0.mk (Kd.R_mono (Kd.R_keep (IsS56.apart (show IsS56 w0 _ g s0_0 t260 t261 from by repeat (first | (with_reducible first | exact HI0.out | apply IsS56.alloc | apply IsS56.drewN | apply IsS56.drew | apply IsS56.set_1 | apply IsS56.set_2 | refine IsS56.far ?_ NB0_249.out _ | refine IsS56.far ?_ NB0_258.out _) | exact HI0.out)) (RU HO252.out) (by decide)) hk (fun _ h => h.2)) (fun _ h => h.1)); replace HO255 := Aside0.mk (Kd.R_mono (Kd.R_keep (IsS56.apart (show IsS56 w0 _ g s0_0 t260 t261 from by repeat (first | (with_reducible first | exact HI0.out | apply IsS56.alloc | apply IsS56.drewN | apply IsS56.drew | apply IsS56.set_1 | apply IsS56.set_2 | refine IsS56.far ?_ NB0_249.out _ | refine IsS56.far ?_ NB0_258.out _) | exact HI0.out)) (RU HO255.out) (by decide)) hk (fun _ h => h.2)) (fun _ h => h.1)); replace BK258 := Aside0.mk (KeepBut.blk hk (g' := gb258) (o := .cells #[.slice Ao82 t250.length co82, .slice Ao86 t253.length co86] 26 (0, 0)) (kU BK258.out) NB258_0.out (by simp)); replace HO279 := Aside0.mk (Kd.R_mono (Kd.R_keep (IsS56.apart (show IsS56 w0 _ g s0_0 t260 t261 from by repeat (first | (with_reducible first | exact HI0.out | apply IsS56.alloc | apply IsS56.drewN | apply IsS56.drew | apply IsS56.set_1 | apply IsS56.set_2 | refine IsS56.far ?_ NB0_249.out _ | refine IsS56.far ?_ NB0_258.out _) | exact HI0.out)) (RU HO279.out) (by decide)) hk (fun _ h => h.2)) (fun _ h => h.1)); replace HK := Aside0.mk (KeepBut.trans (by repeat (first | (with_reducible first | exact HK.out | apply KeepBut.set_ | apply keep_drewN | apply keep_drew | apply keep_alloc | refine keep_far ?_ GW249.out _ | refine keep_far ?_ GW258.out _) | exact HK.out)) hk (.inl rfl)); replace HB := Aside0.mk (hb); replace HI0 := Aside0.mk (hi); (try clear hb); (try clear hb2); (try clear hk); (try clear hi)) | ((with_reducible refine gate_dst (N := 42) rfl ?_); refine Kd.R_make (Kd.int .i64) _ 3 rfl (N := 42) rfl 24 _ _ rfl ji76 rfl rfl Try.underlying24 (.int .i64 0) 8 info3 rfl (by decide) (by omega) 0 (ok := fun _ => True) (okp := fun _ => True) rfl (fun _ hk => hk) trivial (of_decide_eq_true (by first | (with_reducible assumption) | assumption)) (Nat.le_trans (Nat.mul_le_mul_right _ (of_decide_eq_true (by first | (with_reducible assumption) | assumption) : ji76.toNat ≤ 35184372088832)) (by omega)) (Below.refl _ _) (Nat.le_refl _) ?_; intro v284 w91 ho92 hb hg_ hnew_; clear hg_ hnew_; (first | rw [← Ny283.out] at ho92 | (simp only [Int.reduceToNat] at ho92; rw [← Ny283.out] at ho92)); have HO285 := Aside0.mk (Kd.R_lower (Kd.R_new' (Kd.R_new' (Kd.R_new' ho92 (Kd.R_lt (RU HO252.out))) (Kd.R_lt (RU HO255.out))) (Kd.R_lt (RU HO279.out))) (keep_size (w := w) (g := g) (row := none) (by repeat (first | (with_reducible first | exact HK.out | apply KeepBut.set_ | apply keep_drewN | apply keep_drew | apply keep_alloc | refine keep_far ?_ GW249.out _ | refine keep_far ?_ GW258.out _) | exact HK.out)))); replace HO252 := Aside0.mk (Kd.R_elder' (RU HO252.out) (Kd.R_base ho92) hb); replace HO255 := Aside0.mk (Kd.R_elder' (RU HO255.out) (Kd.R_base ho92) hb); replace HO279 := Aside0.mk (Kd.R_elder' (RU HO279.out) (Kd.R_base ho92) hb); replace BK249 := Aside0.mk (kB BK249.out hb); replace BK258 := Aside0.mk (kB BK258.out hb); replace HK := Aside0.mk (KeepBut.trans (by repeat (first | (with_reducible first | exact HK.out | apply KeepBut.set_ | apply keep_drewN | apply keep_drew | apply keep_alloc | refine keep_far ?_ GW249.out _ | refine keep_far ?_ GW258.out _) | exact HK.out)) (KeepBut.of_below hb g none) (.inl rfl)); replace HB := Aside0.mk (below_step (by repeat (first | (with_reducible first | exact HB.out | apply below_alloc | apply pw_below_drewN | apply below_drew1 | refine below_set ?_ (IsS56.ge HI0.out) | refine below_set ?_ GE249.out | refine below_set ?_ GE258.out) | exact HB.out)) hb); replace HI0 := Aside0.mk (IsS56.below (by repeat (first | (with_reducible first | exact HI0.out | apply IsS56.alloc | apply IsS56.drewN | apply IsS56.drew | apply IsS56.set_1 | apply IsS56.set_2 | refine IsS56.far ?_ NB0_249.out _ | refine IsS56.far ?_ NB0_258.out _) | exact HI0.out)) hb); clear hb ho92; obtain ⟨Ao93, co93, eo93⟩ := Kd.R_slice HO285.out; subst eo93; obtain ⟨Ao94, co94, eo94⟩ := Kd.R_slice HO279.out; subst eo94; have hcz95_0 : w91.cell? ⟨gb258, 0, none⟩ = some (.slice Ao82 t250.length co82) := (blk_cell BK258.out 0).trans rfl; have hcz95_1 : w91.cell? ⟨gb258, 1, none⟩ = some (.slice Ao86 t253.length co86) := (blk_cell BK258.out 1).trans rfl; have hfz95_0 := blk_frozen BK258.out 0; have hfz95_1 := blk_frozen BK258.out 1; have hnb96 := NB249_0.out; have hnc96 := NB0_249.out; have hcz97_0 : w91.cell? ⟨gb249, 0, none⟩ = some (.slice none 0 0) := (blk_cell BK249.out 0).trans rfl; have hcz97_1 : w91.cell? ⟨gb249, 1, none⟩ = some (.slice none 0 0) := (blk_cell BK249.out 1).trans rfl; have hfz97_0 := blk_frozen BK249.out 0; have hfz97_1 := blk_frozen BK249.out 1))
       refine bodyPost_ret (results_cell_row rfl _ _ gb249 26 #[.slice Ao94 y277.length co94, .slice Ao93 y283.length co93] (0, 0) _ rfl (by refine kU ?_; refine blk_put (cs := #[.slice Ao94 y277.length co94, .slice none 0 0]) ?_ 1 _ rfl; refine kU ?_; refine blk_put (cs := #[.slice none 0 0, .slice none 0 0]) ?_ 0 _ rfl; refine kU ?_; refine blk_far ?_ NB249_258.out _; refine kU ?_; refine blk_far ?_ NB249_258.out _; refine kU ?_; exact BK249.out) Try.underlying26 rfl (by kernel_rfl)) rfl ?_
       exact ⟨_, _, by first | rfl | (simp [errW_none, errW_some] <;> rfl) | (simp only [← hji76]; first | rfl | (simp [errW_none, errW_some] <;> rfl)) | (simp [*, errW_none, errW_some] <;> rfl), by refine RU ?_; exact Kd.R_mono (Kd.R_far (p := ⟨gb249, 1, none⟩) (Kd.R_far (p := ⟨gb249, 0, none⟩) (Kd.R_far (p := ⟨gb258, 1, none⟩) (Kd.R_far (p := ⟨gb258, 0, none⟩) (Kd.R_types (Kd.R_types HO279.out BK258.out (by decide)) BK249.out (by decide)) (fun _ hk => hk.1.2) (.slice Ao94 y277.length co94)) (fun _ hk => hk.1.2) (.slice Ao93 y283.length co93)) (fun _ hk => hk.2) (.slice Ao94 y277.length co94)) (fun _ hk => hk.2) (.slice Ao93 y283.length co93)) (fun _ hk => hk.1.1.2), by refine RU ?_; exact Kd.R_mono (Kd.R_far (p := ⟨gb249, 1, none⟩) (Kd.R_far (p := ⟨gb249, 0, none⟩) (Kd.R_far (p := ⟨gb258, 1, none⟩) (Kd.R_far (p := ⟨gb258, 0, none⟩) (Kd.R_types (Kd.R_types HO285.out BK258.out (by decide)) BK249.out (by decide)) (fun _ hk => hk.1.2) (.slice Ao94 y277.length co94)) (fun _ hk => hk.1.2) (.slice Ao93 y283.length co93)) (fun _ hk => hk.2) (.slice Ao94 y277.length co94)) (fun _ hk => hk.2) (.slice Ao93 y283.length co93)) (fun _ hk => hk.1.1.2), by repeat (first | (with_reducible first | exact HI0.out | apply IsS56.alloc | apply IsS56.drewN | apply IsS56.drew | apply IsS56.set_1 | apply IsS56.set_2 | refine IsS56.far ?_ NB0_249.out _ | refine IsS56.far ?_ NB0_258.out _) | exact HI0.out), by repeat (first | (with_reducible first | exact HB.out | apply below_alloc | apply pw_below_drewN | apply below_drew1 | refine below_set ?_ (IsS56.ge HI0.out) | refine below_set ?_ GE249.out | refine below_set ?_ GE258.out) | exact HB.out), by repeat (first | (with_reducible first | exact HK.out | apply KeepBut.set_ | apply keep_drewN | apply keep_drew | apply keep_alloc | refine keep_far ?_ GW249.out _ | refine keep_far ?_ GW258.out _) | exact HK.out)⟩
      ·
       rw [if_neg c78] at H
       exact absurd H (by simp)
     ·
      rw [if_neg c77] at H
      exact absurd H (by simp)
    ·
     rw [if_neg c74] at H
     have c74b0 : (t259 == 3) = false := beq_eq_false_iff_ne.mpr c74
     have c74b1 : (t259 != 3) = true := bne_iff_ne.mpr c74
     simp only [Option.some.injEq, Prod.mk.injEq] at H
     obtain ⟨rfl, rfl, rfl, rfl⟩ := H
     go_enter Try.func13, Try.ntmps13
     go_wp2_with (first | ((with_reducible refine gate_dst (N := 2) rfl ?_); refine box_event ?hg (N := 2) ?hd (cs := #[.slice none 0 0, .slice none 0 0]) (t := 26) ?hr ?_; (case hd => rfl); (case hg => rfl); (case hr => first | (go_simp; done) | (go_simp; rfl)); intro gb249 hg w98 hbox hb; replace HB := Aside0.mk (below_step (by repeat (first | (with_reducible first | exact HB.out | apply below_alloc | apply pw_below_drewN | apply below_drew1 | refine below_set ?_ (IsS56.ge HI0.out)) | exact HB.out)) hb); have BK249 := Aside0.mk (hbox); have GW249 := Aside0.mk ((by rw [hg]; exact (keep_size (w := w) (g := g) (row := none) (hU HK.out)) : w.heap.size ≤ gb249)); have GE249 := Aside0.mk ((Nat.le_trans HW0.out (by rw [hg]; exact (keep_size (w := w) (g := g) (row := none) (hU HK.out)) : w.heap.size ≤ gb249) : w0.heap.size ≤ gb249)); replace HK := Aside0.mk (KeepBut.trans (hU HK.out) (KeepBut.of_below hb g none) (.inl rfl)); have NB0_249 := Aside0.mk ((by rw [hg]; exact Nat.ne_of_lt (IsS56.lt (show IsS56 w0 _ g s0_0 s0_1 s0_2 from by exact iU0 HI0.out)) : g ≠ gb249)); have NB249_0 := Aside0.mk ((by rw [hg]; exact Nat.ne_of_gt (IsS56.lt (show IsS56 w0 _ g s0_0 s0_1 s0_2 from by exact iU0 HI0.out)) : gb249 ≠ g)); replace HI0 := Aside0.mk (IsS56.below (iU0 HI0.out) hb); clear hb hbox hg) | ((with_reducible refine gate_callee (f := 30) rfl ?_); refine goesL_ (some 5) rfl rfl Try.func30 (by kernel_rfl) rfl #[.pointer (some ⟨g, 0, none⟩)] rfl lU ?_; (with_reducible refine (spec_l3DrawRight.calls k g s0_0 s0_1 s0_2 t250 t253 t256 t257 w0 _ ?side1 ?side2 A2.out).mono ?_); (case side1 => repeat (first | (with_reducible first | exact HI0.out | apply IsS56.alloc | apply IsS56.drewN | apply IsS56.drew | apply IsS56.set_1 | apply IsS56.set_2 | refine IsS56.far ?_ NB0_249.out _) | exact HI0.out)); (case side2 => repeat (first | (with_reducible first | exact HB.out | apply below_alloc | apply pw_below_drewN | apply below_drew1 | refine below_set ?_ (IsS56.ge HI0.out) | refine below_set ?_ GE249.out) | exact HB.out)); rintro e w99 ⟨v251, v254, rfl, ho0, ho1, hi, hb, hk⟩; refine ⟨_, rfl, ?_⟩; replace BK249 := Aside0.mk (KeepBut.blk hk (g' := gb249) (o := .cells #[.slice none 0 0, .slice none 0 0] 26 (0, 0)) (kU BK249.out) NB249_0.out (by simp)); have HO252 := Aside0.mk (Kd.R_lower ho0 (keep_size (w := w) (g := g) (row := none) (by repeat (first | (with_reducible first | exact HK.out | apply KeepBut.set_ | apply keep_drewN | apply keep_drew | apply keep_alloc | refine keep_far ?_ GW249.out _) | exact HK.out)))); have HO255 := Aside0.mk (Kd.R_lower ho1 (keep_size (w := w) (g := g) (row := none) (by repeat (first | (with_reducible first | exact HK.out | apply KeepBut.set_ | apply keep_drewN | apply keep_drew | apply keep_alloc | refine keep_far ?_ GW249.out _) | exact HK.out)))); replace HK := Aside0.mk (KeepBut.trans (by repeat (first | (with_reducible first | exact HK.out | apply KeepBut.set_ | apply keep_drewN | apply keep_drew | apply keep_alloc | refine keep_far ?_ GW249.out _) | exact HK.out)) hk (.inl rfl)); replace HB := Aside0.mk (hb); replace HI0 := Aside0.mk (hi); (try clear hb); (try clear hb2); (try clear hk); (try clear hi); (try clear ho0); (try clear ho1)) | ((with_reducible refine gate_dst (N := 3) rfl ?_); refine box_event ?hg (N := 3) ?hd (cs := #[.slice none 0 0, .slice none 0 0]) (t := 26) ?hr ?_; (case hd => rfl); (case hg => rfl); (case hr => first | (go_simp; done) | (go_simp; rfl)); intro gb258 hg w100 hbox hb; replace HO252 := Aside0.mk (Kd.R_below (RU HO252.out) hb); replace HO255 := Aside0.mk (Kd.R_below (RU HO255.out) hb); replace HB := Aside0.mk (below_step (by repeat (first | (with_reducible first | exact HB.out | apply below_alloc | apply pw_below_drewN | apply below_drew1 | refine below_set ?_ (IsS56.ge HI0.out) | refine below_set ?_ GE249.out) | exact HB.out)) hb); have BK258 := Aside0.mk (hbox); have GW258 := Aside0.mk ((by rw [hg]; exact (keep_size (w := w) (g := g) (row := none) (by repeat (first | (with_reducible first | exact HK.out | apply KeepBut.set_ | apply keep_drewN | apply keep_drew | apply keep_alloc | refine keep_far ?_ GW249.out _) | exact HK.out))) : w.heap.size ≤ gb258)); have GE258 := Aside0.mk ((Nat.le_trans HW0.out (by rw [hg]; exact (keep_size (w := w) (g := g) (row := none) (by repeat (first | (with_reducible first | exact HK.out | apply KeepBut.set_ | apply keep_drewN | apply keep_drew | apply keep_alloc | refine keep_far ?_ GW249.out _) | exact HK.out))) : w.heap.size ≤ gb258) : w0.heap.size ≤ gb258)); replace HK := Aside0.mk (KeepBut.trans (by repeat (first | (with_reducible first | exact HK.out | apply KeepBut.set_ | apply keep_drewN | apply keep_drew | apply keep_alloc | refine keep_far ?_ GW249.out _) | exact HK.out)) (KeepBut.of_below hb g none) (.inl rfl)); have NB249_258 := Aside0.mk (kN BK249.out hg); have NB258_249 := Aside0.mk (kM BK249.out hg); replace BK249 := Aside0.mk (kB BK249.out hb); have NB0_258 := Aside0.mk ((by rw [hg]; exact Nat.ne_of_lt (IsS56.lt (show IsS56 w0 _ g s0_0 t256 t257 from by repeat (first | (with_reducible first | exact HI0.out | apply IsS56.alloc | apply IsS56.drewN | apply IsS56.drew | apply IsS56.set_1 | apply IsS56.set_2 | refine IsS56.far ?_ NB0_249.out _) | exact HI0.out))) : g ≠ gb258)); have NB258_0 := Aside0.mk ((by rw [hg]; exact Nat.ne_of_gt (IsS56.lt (show IsS56 w0 _ g s0_0 t256 t257 from by repeat (first | (with_reducible first | exact HI0.out | apply IsS56.alloc | apply IsS56.drewN | apply IsS56.drew | apply IsS56.set_1 | apply IsS56.set_2 | refine IsS56.far ?_ NB0_249.out _) | exact HI0.out))) : gb258 ≠ g)); replace HI0 := Aside0.mk (IsS56.below (by repeat (first | (with_reducible first | exact HI0.out | apply IsS56.alloc | apply IsS56.drewN | apply IsS56.drew | apply IsS56.set_1 | apply IsS56.set_2 | refine IsS56.far ?_ NB0_249.out _) | exact HI0.out)) hb); clear hb hbox hg; obtain ⟨Ao101, co101, eo101⟩ := Kd.R_slice HO252.out; subst eo101; have hnb102 := NB258_249.out; have hnc102 := NB249_258.out; have hnb103 := NB258_0.out; have hnc103 := NB0_258.out; have hcz104_0 : w100.cell? ⟨gb258, 0, none⟩ = some (.slice none 0 0) := (blk_cell BK258.out 0).trans rfl; have hcz104_1 : w100.cell? ⟨gb258, 1, none⟩ = some (.slice none 0 0) := (blk_cell BK258.out 1).trans rfl; have hfz104_0 := blk_frozen BK258.out 0; have hfz104_1 := blk_frozen BK258.out 1; obtain ⟨Ao105, co105, eo105⟩ := Kd.R_slice HO255.out; subst eo105) | ((with_reducible refine gate_callee (f := 31) rfl ?_); refine goesL_ (some 7) rfl rfl Try.func31 (by kernel_rfl) rfl #[.pointer (some ⟨g, 0, none⟩), .int .i64 20] rfl lU ?_; (with_reducible refine (spec_l1Below.calls g s0_0 t256 t257 20 t259 t260 t261 w0 _ ?side1 ?side2 A3.out).mono ?_); (case side1 => repeat (first | (with_reducible first | exact HI0.out | apply IsS56.alloc | apply IsS56.drewN | apply IsS56.drew | apply IsS56.set_1 | apply IsS56.set_2 | refine IsS56.far ?_ NB0_249.out _ | refine IsS56.far ?_ NB0_258.out _) | exact HI0.out)); (case side2 => repeat (first | (with_reducible first | exact HB.out | apply below_alloc | apply pw_below_drewN | apply below_drew1 | refine below_set ?_ (IsS56.ge HI0.out) | refine below_set ?_ GE249.out | refine below_set ?_ GE258.out) | exact HB.out)); rintro e w106 ⟨rfl, hi, hb, hk⟩; refine ⟨_, rfl, ?_⟩; replace BK249 := Aside0.mk (KeepBut.blk hk (g' := gb249) (o := .cells #[.slice none 0 0, .slice none 0 0] 26 (0, 0)) (by refine kU ?_; refine blk_far ?_ NB249_258.out _; refine kU ?_; refine blk_far ?_ NB249_258.out _; refine kU ?_; exact BK249.out) NB249_0.out (by simp)); replace HO252 := Aside0.mk (Kd.R_mono (Kd.R_keep (IsS56.apart (show IsS56 w0 _ g s0_0 t256 t257 from by repeat (first | (with_reducible first | exact HI0.out | apply IsS56.alloc | apply IsS56.drewN | apply IsS56.drew | apply IsS56.set_1 | apply IsS56.set_2 | refine IsS56.far ?_ NB0_249.out _ | refine IsS56.far ?_ NB0_258.out _) | exact HI0.out)) (by refine RU ?_; exact (far2 HO252.out BK258.out)) (by decide)) hk (fun _ h => h.2)) (fun _ h => h.1)); replace HO255 := Aside0.mk (Kd.R_mono (Kd.R_keep (IsS56.apart (show IsS56 w0 _ g s0_0 t256 t257 from by repeat (first | (with_reducible first | exact HI0.out | apply IsS56.alloc | apply IsS56.drewN | apply IsS56.drew | apply IsS56.set_1 | apply IsS56.set_2 | refine IsS56.far ?_ NB0_249.out _ | refine IsS56.far ?_ NB0_258.out _) | exact HI0.out)) (by refine RU ?_; exact (far2 HO255.out BK258.out)) (by decide)) hk (fun _ h => h.2)) (fun _ h => h.1)); replace BK258 := Aside0.mk (KeepBut.blk hk (g' := gb258) (o := .cells #[.slice Ao101 t250.length co101, .slice Ao105 t253.length co105] 26 (0, 0)) (by refine kU ?_; refine blk_put (cs := #[.slice Ao101 t250.length co101, .slice none 0 0]) ?_ 1 _ rfl; refine kU ?_; refine blk_put (cs := #[.slice none 0 0, .slice none 0 0]) ?_ 0 _ rfl; refine kU ?_; exact BK258.out) NB258_0.out (by simp)); replace HK := Aside0.mk (KeepBut.trans (by repeat (first | (with_reducible first | exact HK.out | apply KeepBut.set_ | apply keep_drewN | apply keep_drew | apply keep_alloc | refine keep_far ?_ GW249.out _ | refine keep_far ?_ GW258.out _) | exact HK.out)) hk (.inl rfl)); replace HB := Aside0.mk (hb); replace HI0 := Aside0.mk (hi); (try clear hb); (try clear hb2); (try clear hk); (try clear hi); have hcz107_0 : w106.cell? ⟨gb258, 0, none⟩ = some (.slice Ao101 t250.length co101) := (blk_cell BK258.out 0).trans rfl; have hcz107_1 : w106.cell? ⟨gb258, 1, none⟩ = some (.slice Ao105 t253.length co105) := (blk_cell BK258.out 1).trans rfl; have hfz107_0 := blk_frozen BK258.out 0; have hfz107_1 := blk_frozen BK258.out 1; have hnb108 := NB249_0.out; have hnc108 := NB0_249.out; have hcz109_0 : w106.cell? ⟨gb249, 0, none⟩ = some (.slice none 0 0) := (blk_cell BK249.out 0).trans rfl; have hcz109_1 : w106.cell? ⟨gb249, 1, none⟩ = some (.slice none 0 0) := (blk_cell BK249.out 1).trans rfl; have hfz109_0 := blk_frozen BK249.out 0; have hfz109_1 := blk_frozen BK249.out 1))
     refine bodyPost_ret (results_cell_row rfl _ _ gb249 26 #[.slice Ao101 t250.length co101, .slice Ao105 t253.length co105] (0, 0) _ rfl (by refine kU ?_; refine blk_put (cs := #[.slice Ao101 t250.length co101, .slice none 0 0]) ?_ 1 _ rfl; refine kU ?_; refine blk_put (cs := #[.slice none 0 0, .slice none 0 0]) ?_ 0 _ rfl; refine kU ?_; exact BK249.out) Try.underlying26 rfl (by kernel_rfl)) rfl ?_
     exact ⟨_, _, by first | rfl | (simp [errW_none, errW_some] <;> rfl) | (simp [*, errW_none, errW_some] <;> rfl), by refine RU ?_; exact Kd.R_mono (Kd.R_far (p := ⟨gb249, 1, none⟩) (Kd.R_far (p := ⟨gb249, 0, none⟩) (Kd.R_types HO252.out BK249.out (by decide)) (fun _ hk => hk.2) (.slice Ao101 t250.length co101)) (fun _ hk => hk.2) (.slice Ao105 t253.length co105)) (fun _ hk => hk.1), by refine RU ?_; exact Kd.R_mono (Kd.R_far (p := ⟨gb249, 1, none⟩) (Kd.R_far (p := ⟨gb249, 0, none⟩) (Kd.R_types HO255.out BK249.out (by decide)) (fun _ hk => hk.2) (.slice Ao101 t250.length co101)) (fun _ hk => hk.2) (.slice Ao105 t253.length co105)) (fun _ hk => hk.1), by repeat (first | (with_reducible first | exact HI0.out | apply IsS56.alloc | apply IsS56.drewN | apply IsS56.drew | apply IsS56.set_1 | apply IsS56.set_2 | refine IsS56.far ?_ NB0_249.out _ | refine IsS56.far ?_ NB0_258.out _) | exact HI0.out), by repeat (first | (with_reducible first | exact HB.out | apply below_alloc | apply pw_below_drewN | apply below_drew1 | refine below_set ?_ (IsS56.ge HI0.out) | refine below_set ?_ GE249.out | refine below_set ?_ GE258.out) | exact HB.out), by repeat (first | (with_reducible first | exact HK.out | apply KeepBut.set_ | apply keep_drewN | apply keep_drew | apply keep_alloc | refine keep_far ?_ GW249.out _ | refine keep_far ?_ GW258.out _) | exact HK.out)⟩

/-! ### spec_l1New: function 14 -/
def spec_l1New.l0 : Nat → List Int → Int → Int → Option (List Int × Int × Int)
 | 0, _, _, _ => none
 | k + 1, x0, x3, x4 => if x4 < (x0.length : Int) then (if x4 < 4000 then (if 0 ≤ x4 then (spec_l1New.l0 k x0 (Go.bits .and .i64 (wrap64 ((wrap64 ((wrap64 (x3 * 131)) + (wrap64 (rd x0 x4)))) + 7)) 1073741823) (wrap64 (x4 + 1))) else (none)) else (some (x0, 0, x3))) else (some (x0, 0, x3))
def spec_l1New.f (k : Nat) (l0 : List Int) : Option (List Int × Int × Int) := spec_l1New.l0 k l0 (wrap64 (18218 + (l0.length : Int))) 0
set_option maxHeartbeats 8000000 in
set_option maxRecDepth 100000 in
theorem spec_l1New.calls (k : Nat) (A0 : Option Addr) (c0 : Nat) (l0 : List Int) (r1 : List Int) (r2 : Int) (r3 : Int) (w0 w : World) (hB : Below w0.heap.size w0 w) (hr0 : Kd.C (Kd.int .u8) w0 A0 l0.length l0) (hc0 : l0.length ≤ c0) (h : spec_l1New.f k l0 = some (r1, r2, r3)) :
  Calls Try.prog 14 #[.slice A0 l0.length c0] w fun e w' => ∃ g_ : Nat, e = .returned (.pointer (some ⟨g_, 0, none⟩)) ∧ IsS56 w0 w' g_ r1 r2 r3 ∧ Below w0.heap.size w0 w' ∧ Below w.heap.size w w' := by
 have hu56 := Try.underlying56
 have HR0 := Aside0.mk hr0
 have HC0 := Aside0.mk hc0
 clear hr0 hc0
 have HBW := Aside0.mk (Below.refl w.heap.size w)
 have HW0 := Aside0.mk hB.size
 have HB := Aside0.mk hB
 clear hB
 have H : (spec_l1New.l0 k l0 (wrap64 (18218 + (l0.length : Int))) 0) = some (r1, r2, r3) := h
 clear h
 have H' := Aside0.mk H
 clear H
 go_enter Try.func14, Try.ntmps14
 go_wp2
 go_loopg [3, 4] k (fun kq v3 v4 w' => ∃ (x3_1 : Int) (x4_1 : Int), v3 = .int .i64 x3_1 ∧ v4 = .int .i64 x4_1 ∧ Aside0 (spec_l1New.l0 kq l0 x3_1 x4_1 = some (r1, r2, r3)) ∧ Aside0 (kq ≤ k) ∧ Aside0 (Below w0.heap.size w0 w') ∧ Aside0 (Below w.heap.size w w'))
 case atStart => exact ⟨(wrap64 (18218 + (l0.length : Int))), (0), (by first | rfl | (simp; done) | (simp [*]; done)), (by first | rfl | (simp; done) | (simp [*]; done)), H', ⟨Nat.le_refl _⟩, ⟨by exact bU HB.out⟩, ⟨by repeat (first | (with_reducible first | exact HBW.out | apply below_alloc | apply pw_below_drewN | apply below_drew1) | exact HBW.out)⟩⟩
 case round =>
  clear H'
  try clear c1
  obtain ⟨x3_1, x4_1, rfl, rfl, HA, HK1, HB, HBW⟩ := hrel
  cases gk with
  | zero => exact absurd HA.out (by simp [spec_l1New.l0])
  | succ k1 =>
   have H := HA.out
   clear HA
   simp only [spec_l1New.l0] at H
   by_cases c2 : x4_1 < (l0.length : Int)
   ·
    rw [if_pos c2] at H
    have c2b0 : decide (x4_1 < (l0.length : Int)) = true := decide_eq_true c2
    clear c2
    by_cases c3 : x4_1 < 4000
    ·
     rw [if_pos c3] at H
     have c3b0 : decide (x4_1 < 4000) = true := decide_eq_true c3
     clear c3
     by_cases c4 : 0 ≤ x4_1
     ·
      rw [if_pos c4] at H
      have c4b0 : decide (0 ≤ x4_1) = true := decide_eq_true c4
      clear c4
      have H' := Aside0.mk H
      clear H
      have p286 : 0 ≤ (x4_1 : Int) := of_decide_eq_true (by first | (with_reducible assumption) | assumption)
      have q286 : x4_1 < (l0.length : Int) := of_decide_eq_true (by first | (with_reducible assumption) | assumption)
      obtain ⟨ad286, e286, hx286_0⟩ := Kd.at_int HR0.out x4_1 p286 q286
      cases e286
      replace hx286_0 := pw_cell_below HB.out hx286_0
      replace p286 := eq_true p286
      replace q286 := eq_true q286
      go_wp2
      go_roundg k1
      case measure => have := HK1.out; omega
      case rel => exact ⟨(Go.bits .and .i64 (wrap64 ((wrap64 ((wrap64 (x3_1 * 131)) + (wrap64 (rd l0 x4_1)))) + 7)) 1073741823), (wrap64 (x4_1 + 1)), (by first | rfl | (simp; done) | (simp [*]; done)), (by first | rfl | (simp; done) | (simp [*]; done)), H', ⟨by have := HK1.out; omega⟩, ⟨by exact bU HB.out⟩, ⟨by repeat (first | (with_reducible first | exact HBW.out | apply below_alloc | apply pw_below_drewN | apply below_drew1) | exact HBW.out)⟩⟩
     ·
      rw [if_neg c4] at H
      exact absurd H (by simp)
    ·
     rw [if_neg c3] at H
     have c3b0 : decide (x4_1 < 4000) = false := decide_eq_false c3
     clear c3
     simp only [Option.some.injEq, Prod.mk.injEq] at H
     obtain ⟨rfl, rfl, rfl⟩ := H
     go_wp2
     go_ret
     exact ⟨_, rfl, IsS56.new w0 _ _ _ _ _ _ HB.out HR0.out, below_alloc HB.out _, below_alloc HBW.out _⟩
   ·
    rw [if_neg c2] at H
    have c2b0 : decide (x4_1 < (l0.length : Int)) = false := decide_eq_false c2
    clear c2
    simp only [Option.some.injEq, Prod.mk.injEq] at H
    obtain ⟨rfl, rfl, rfl⟩ := H
    go_wp2
    go_ret
    exact ⟨_, rfl, IsS56.new w0 _ _ _ _ _ _ HB.out HR0.out, below_alloc HB.out _, below_alloc HBW.out _⟩

/-! ### spec_DrawTurn: function 5 -/
def spec_DrawTurn.f (k : Nat) (l0 : List Int) : Option (List Int × List Int) := (spec_l1New.f k l0).bind fun bt290 => ((spec_l3Draw.f k bt290.1 bt290.2.1 bt290.2.2).bind fun bt294 => (some (bt294.1, bt294.2.1)))
set_option maxHeartbeats 8000000 in
set_option maxRecDepth 100000 in
theorem spec_DrawTurn.calls (k : Nat) (A0 : Option Addr) (c0 : Nat) (l0 : List Int) (r1 : List Int) (r2 : List Int) (w : World) (hr0 : Kd.C (Kd.int .u8) w A0 l0.length l0) (hc0 : l0.length ≤ c0) (h : spec_DrawTurn.f k l0 = some (r1, r2)) :
  Calls Try.prog 5 #[.slice A0 l0.length c0] w fun e w' => ∃ v0_ v1_ : Value, e = .returned (.agg #[v0_, v1_]) ∧ Kd.R (Kd.int .i64) 3 w' w.heap.size (fun k_ => some k_ ≠ (v1_ : Value).ownBlock) v0_ r1 ∧ Kd.R (Kd.int .i64) 3 w' w.heap.size (fun k_ => some k_ ≠ (v0_ : Value).ownBlock) v1_ r2 ∧ Below w.heap.size w w' := by
 have hu26 := Try.underlying26
 have HR0 := Aside0.mk hr0
 have HC0 := Aside0.mk hc0
 clear hr0 hc0
 have HB := Aside0.mk (Below.refl w.heap.size w)
 have H : ((spec_l1New.f k l0).bind fun bt290 => ((spec_l3Draw.f k bt290.1 bt290.2.1 bt290.2.2).bind fun bt294 => (some (bt294.1, bt294.2.1)))) = some (r1, r2) := h
 clear h
 replace H := Option.bind_eq_some_iff.mp H
 obtain ⟨⟨t290, t291, t292⟩, A20, H⟩ := H
 replace H : ((spec_l3Draw.f k t290 t291 t292).bind fun bt294 => (some (bt294.1, bt294.2.1))) = some (r1, r2) := H
 have A2 := Aside0.mk A20
 clear A20
 replace H := Option.bind_eq_some_iff.mp H
 obtain ⟨⟨t294, t297, t300, t301⟩, A30, H⟩ := H
 replace H : (some (t294, t297)) = some (r1, r2) := H
 have A3 := Aside0.mk A30
 clear A30
 simp only [Option.some.injEq, Prod.mk.injEq] at H
 obtain ⟨rfl, rfl⟩ := H
 go_enter Try.func5, Try.ntmps5
 go_wp2_with (first | ((with_reducible refine gate_dst (N := 2) rfl ?_); refine box_event ?hg (N := 2) ?hd (cs := #[.slice none 0 0, .slice none 0 0]) (t := 26) ?hr ?_; (case hd => rfl); (case hg => rfl); (case hr => first | (go_simp; done) | (go_simp; rfl)); intro gb289 hg w4 hbox hb; have BK289 := Aside0.mk (hbox); have GW289 := Aside0.mk ((by rw [hg]; exact (below_size (bU HB.out)) : w.heap.size ≤ gb289)); have GE289 := Aside0.mk ((by rw [hg]; exact (below_size (bU HB.out)) : w.heap.size ≤ gb289)); replace HB := Aside0.mk (below_step (bU HB.out) hb); clear hb hbox hg) | ((with_reducible refine gate_callee (f := 14) rfl ?_); refine goesL_ (some 4) rfl rfl Try.func14 (by kernel_rfl) rfl #[.slice A0 l0.length c0] rfl lU ?_; (with_reducible refine (spec_l1New.calls k _ _ l0 t290 t291 t292 w _ ?side1 ?side2 ?side3 A2.out).mono ?_); (case side1 => exact bS1 HB.out GE289.out); (case side2 => exact HR0.out); (case side3 => exact HC0.out); rintro e w5 ⟨g293, rfl, hi, hb, hb2⟩; refine ⟨_, rfl, ?_⟩; replace HB := Aside0.mk (hb); have HI293 := Aside0.mk (hi); have NB293_289 := Aside0.mk (IsS56.ne_blk hi (blk_below (g := gb289) (o := .cells #[.slice none 0 0, .slice none 0 0] 26 (0, 0)) (kU BK289.out) hb2) (by decide)); have NB289_293 := Aside0.mk (Ne.symm (IsS56.ne_blk hi (blk_below (g := gb289) (o := .cells #[.slice none 0 0, .slice none 0 0] 26 (0, 0)) (kU BK289.out) hb2) (by decide))); replace BK289 := Aside0.mk (blk_below (g := gb289) (o := .cells #[.slice none 0 0, .slice none 0 0] 26 (0, 0)) (kU BK289.out) hb2); (try clear hb); (try clear hb2); (try clear hk); (try clear hi)) | ((with_reducible refine gate_callee (f := 13) rfl ?_); refine goesL_ (some 5) rfl rfl Try.func13 (by kernel_rfl) rfl #[.pointer (some ⟨g293, 0, none⟩)] rfl lU ?_; (with_reducible refine (spec_l3Draw.calls k g293 t290 t291 t292 t294 t297 t300 t301 w _ ?side1 ?side2 A3.out).mono ?_); (case side1 => repeat (first | (with_reducible first | exact HI293.out | apply IsS56.alloc | apply IsS56.drewN | apply IsS56.drew | apply IsS56.set_1 | apply IsS56.set_2 | refine IsS56.far ?_ NB293_289.out _) | exact HI293.out)); (case side2 => repeat (first | (with_reducible first | exact HB.out | apply below_alloc | apply pw_below_drewN | apply below_drew1 | refine below_set ?_ (IsS56.ge HI293.out) | refine below_set ?_ GE289.out) | exact HB.out)); rintro e w6 ⟨v295, v298, rfl, ho0, ho1, hi, hb, hk⟩; refine ⟨_, rfl, ?_⟩; replace BK289 := Aside0.mk (KeepBut.blk hk (g' := gb289) (o := .cells #[.slice none 0 0, .slice none 0 0] 26 (0, 0)) (kU BK289.out) NB289_293.out (by simp)); have HO296 := Aside0.mk (Kd.R_lower ho0 (below_size (by repeat (first | (with_reducible first | exact HB.out | apply below_alloc | apply pw_below_drewN | apply below_drew1 | refine below_set ?_ (IsS56.ge HI293.out) | refine below_set ?_ GE289.out) | exact HB.out)))); have HO299 := Aside0.mk (Kd.R_lower ho1 (below_size (by repeat (first | (with_reducible first | exact HB.out | apply below_alloc | apply pw_below_drewN | apply below_drew1 | refine below_set ?_ (IsS56.ge HI293.out) | refine below_set ?_ GE289.out) | exact HB.out)))); replace HB := Aside0.mk (hb); replace HI293 := Aside0.mk (hi); (try clear hb); (try clear hb2); (try clear hk); (try clear hi); (try clear ho0); (try clear ho1); obtain ⟨Ao7, co7, eo7⟩ := Kd.R_slice HO296.out; subst eo7; have hnb8 := NB289_293.out; have hnc8 := NB293_289.out; have hcz9_0 : w6.cell? ⟨gb289, 0, none⟩ = some (.slice none 0 0) := (blk_cell BK289.out 0).trans rfl; have hcz9_1 : w6.cell? ⟨gb289, 1, none⟩ = some (.slice none 0 0) := (blk_cell BK289.out 1).trans rfl; have hfz9_0 := blk_frozen BK289.out 0; have hfz9_1 := blk_frozen BK289.out 1; obtain ⟨Ao10, co10, eo10⟩ := Kd.R_slice HO299.out; subst eo10))
 refine bodyPost_ret (results_cell_row rfl _ _ gb289 26 #[.slice Ao7 t294.length co7, .slice Ao10 t297.length co10] (0, 0) _ rfl (by refine kU ?_; refine blk_put (cs := #[.slice Ao7 t294.length co7, .slice none 0 0]) ?_ 1 _ rfl; refine kU ?_; refine blk_put (cs := #[.slice none 0 0, .slice none 0 0]) ?_ 0 _ rfl; refine kU ?_; exact BK289.out) Try.underlying26 rfl (by kernel_rfl)) rfl ?_
 exact ⟨_, _, by first | rfl | (simp [errW_none, errW_some] <;> rfl) | (simp [*, errW_none, errW_some] <;> rfl), by refine RU ?_; exact Kd.R_mono (Kd.R_far (p := ⟨gb289, 1, none⟩) (Kd.R_far (p := ⟨gb289, 0, none⟩) (Kd.R_types HO296.out BK289.out (by decide)) (fun _ hk => hk.2) (.slice Ao7 t294.length co7)) (fun _ hk => hk.2) (.slice Ao10 t297.length co10)) (fun _ hk => hk.1), by refine RU ?_; exact Kd.R_mono (Kd.R_far (p := ⟨gb289, 1, none⟩) (Kd.R_far (p := ⟨gb289, 0, none⟩) (Kd.R_types HO299.out BK289.out (by decide)) (fun _ hk => hk.2) (.slice Ao7 t294.length co7)) (fun _ hk => hk.2) (.slice Ao10 t297.length co10)) (fun _ hk => hk.1), by repeat (first | (with_reducible first | exact HB.out | apply below_alloc | apply pw_below_drewN | apply below_drew1 | refine below_set ?_ (IsS56.ge HI293.out) | refine below_set ?_ GE289.out) | exact HB.out)⟩

/-! ### impl_within: function 37 -/
def impl_within.f (a0 : Int) (a1 : Int) (a2 : Int) : Option (Bool) := if a0 ≥ a1 then (some (decide (a0 ≤ a2))) else (some false)
set_option maxHeartbeats 8000000 in
set_option maxRecDepth 100000 in
theorem impl_within.calls (a0 : Int) (a1 : Int) (a2 : Int) (r : Bool) (w : World) (h : impl_within.f a0 a1 a2 = some r) :
  Calls Try.prog 37 #[.int .i64 a0, .int .i64 a1, .int .i64 a2] w fun e w' => e = .returned (.bool r) ∧ Drawn0 w w' := by
 have H : (if a0 ≥ a1 then (some (decide (a0 ≤ a2))) else (some false)) = some r := h
 clear h
 by_cases c4 : a0 ≥ a1
 ·
  rw [if_pos c4] at H
  have c4b0 : decide (a1 ≤ a0) = true := decide_eq_true c4
  clear c4
  obtain rfl := Option.some.inj H
  go_enter Try.func37, Try.ntmps37
  go_wp2
  go_ret
  exact ⟨rU, dU⟩
 ·
  rw [if_neg c4] at H
  have c4b0 : decide (a1 ≤ a0) = false := decide_eq_false c4
  clear c4
  obtain rfl := Option.some.inj H
  go_enter Try.func37, Try.ntmps37
  go_wp2
  go_ret
  exact ⟨rU, dU⟩

/-! ### impl_SizeOf: function 34 -/
def impl_SizeOf.l0 : Nat → Int → List Int → Int → Int → Option (Int)
 | 0, _, _, _, _ => none
 | k + 1, x3, x9, x10, x11 => if x11 < x10 then (if 0 ≤ x11 then (if x11 < (x9.length : Int) then ((impl_within.f (rd x9 x11) 0 300).bind fun t303 => (if t303 = true then (impl_SizeOf.l0 k (wrap64 (x3 * (rd x9 x11))) x9 x10 (wrap64 (x11 + 1))) else (some (-1)))) else (none)) else (none)) else (if x3 > 300 then (some (-1)) else (some x3))
def impl_SizeOf.f (k : Nat) (l0 : List Int) : Option (Int) := if (l0.length : Int) > 3 then (some (-1)) else (impl_SizeOf.l0 k 1 l0 (l0.length : Int) 0)
set_option maxHeartbeats 8000000 in
set_option maxRecDepth 100000 in
theorem impl_SizeOf.calls (k : Nat) (A0 : Option Addr) (c0 : Nat) (l0 : List Int) (r : Int) (w : World) (hr0 : Kd.C (Kd.int .i64) w A0 l0.length l0) (hc0 : l0.length ≤ c0) (h : impl_SizeOf.f k l0 = some r) :
  Calls Try.prog 34 #[.slice A0 l0.length c0] w fun e w' => e = .returned (.int .i64 r) ∧ Drawn0 w w' := by
 have HR0 := Aside0.mk hr0
 have HC0 := Aside0.mk hc0
 clear hr0 hc0
 have H : (if (l0.length : Int) > 3 then (some (-1)) else (impl_SizeOf.l0 k 1 l0 (l0.length : Int) 0)) = some r := h
 clear h
 by_cases c2 : (l0.length : Int) > 3
 ·
  rw [if_pos c2] at H
  have c2b0 : decide (3 < (l0.length : Int)) = true := decide_eq_true c2
  have c2b1 : decide (3 < l0.length) = true := decide_eq_true (by omega)
  clear c2
  obtain rfl := Option.some.inj H
  go_enter Try.func34, Try.ntmps34
  go_wp2
  go_ret
  exact ⟨rU, dU⟩
 ·
  rw [if_neg c2] at H
  have c2b0 : decide (3 < (l0.length : Int)) = false := decide_eq_false c2
  have c2b1 : decide (3 < l0.length) = false := decide_eq_false (by omega)
  clear c2
  have H' := Aside0.mk H
  clear H
  go_enter Try.func34, Try.ntmps34
  go_wp2
  go_loopg [3, 11] k (fun kq v3 v11 w' => ∃ (x3_1 : Int) (x11_1 : Int), v3 = .int .i64 x3_1 ∧ v11 = .int .i64 x11_1 ∧ Aside0 (impl_SizeOf.l0 kq x3_1 l0 (l0.length : Int) x11_1 = some r) ∧ Aside0 (kq ≤ k) ∧ Drawn0 w w')
  case atStart => exact ⟨(1), (0), (by first | rfl | (simp; done) | (simp [*]; done)), (by first | rfl | (simp; done) | (simp [*]; done)), H', ⟨Nat.le_refl _⟩, by repeat (first | exact Drawn0.refl _ | apply Drawn0.step)⟩
  case round =>
   clear H'
   try clear c2
   try clear c2b0
   try clear c2b1
   try clear p2
   obtain ⟨x3_1, x11_1, rfl, rfl, HA, HK1, ⟨m1, rfl⟩⟩ := hrel
   cases gk with
   | zero => exact absurd HA.out (by simp [impl_SizeOf.l0])
   | succ k1 =>
    have H := HA.out
    clear HA
    simp only [impl_SizeOf.l0] at H
    by_cases c3 : x11_1 < (l0.length : Int)
    ·
     rw [if_pos c3] at H
     have c3b0 : decide (x11_1 < (l0.length : Int)) = true := decide_eq_true c3
     clear c3
     by_cases c4 : 0 ≤ x11_1
     ·
      rw [if_pos c4] at H
      have c4b0 : decide (0 ≤ x11_1) = true := decide_eq_true c4
      clear c4
      by_cases c5 : x11_1 < (l0.length : Int)
      ·
       rw [if_pos c5] at H
       have c5b0 : decide (x11_1 < (l0.length : Int)) = true := decide_eq_true c5
       clear c5
       replace H := Option.bind_eq_some_iff.mp H
       obtain ⟨t303, A60, H⟩ := H
       replace H : (if t303 = true then (impl_SizeOf.l0 k1 (wrap64 (x3_1 * (rd l0 x11_1))) l0 (l0.length : Int) (wrap64 (x11_1 + 1))) else (some (-1))) = some r := H
       have A6 := Aside0.mk A60
       clear A60
       by_cases c7 : t303 = true
       ·
        subst c7
        have H1 : (impl_SizeOf.l0 k1 (wrap64 (x3_1 * (rd l0 x11_1))) l0 (l0.length : Int) (wrap64 (x11_1 + 1))) = some r := by rw [if_pos rfl] at H; exact H
        clear H
        have H := H1
        clear H1
        have H' := Aside0.mk H
        clear H
        have p302 : 0 ≤ (x11_1 : Int) := of_decide_eq_true (by first | (with_reducible assumption) | assumption)
        have q302 : x11_1 < (l0.length : Int) := of_decide_eq_true (by first | (with_reducible assumption) | assumption)
        obtain ⟨ad302, e302, hx302_0⟩ := Kd.at_int HR0.out x11_1 p302 q302
        cases e302
        replace p302 := eq_true p302
        replace q302 := eq_true q302
        go_wp2_with (first | ((with_reducible refine gate_callee (f := 37) rfl ?_); refine goesL_ (some 16) rfl rfl Try.func37 (by kernel_rfl) rfl #[.int .i64 (rd l0 x11_1), .int .i64 0, .int .i64 300] rfl lU ?_; (with_reducible refine (impl_within.calls (rd l0 x11_1) 0 300 true _ A6.out).mono ?_); rintro e w' ⟨rfl, ⟨nd, rfl⟩⟩; refine ⟨_, rfl, ?_⟩))
        go_roundg k1
        case measure => have := HK1.out; omega
        case rel => exact ⟨(wrap64 (x3_1 * (rd l0 x11_1))), (wrap64 (x11_1 + 1)), (by first | rfl | (simp; done) | (simp [*]; done)), (by first | rfl | (simp; done) | (simp [*]; done)), H', ⟨by have := HK1.out; omega⟩, by repeat (first | exact Drawn0.refl _ | apply Drawn0.step)⟩
       ·
        replace c7 := Bool.eq_false_iff.mpr c7
        subst c7
        have H1 : (some (-1)) = some r := by rw [if_neg (show ¬ (false = true) by decide)] at H; exact H
        clear H
        have H := H1
        clear H1
        obtain rfl := Option.some.inj H
        have p302 : 0 ≤ (x11_1 : Int) := of_decide_eq_true (by first | (with_reducible assumption) | assumption)
        have q302 : x11_1 < (l0.length : Int) := of_decide_eq_true (by first | (with_reducible assumption) | assumption)
        obtain ⟨ad302, e302, hx302_0⟩ := Kd.at_int HR0.out x11_1 p302 q302
        cases e302
        replace p302 := eq_true p302
        replace q302 := eq_true q302
        go_wp2_with (first | ((with_reducible refine gate_callee (f := 37) rfl ?_); refine goesL_ (some 16) rfl rfl Try.func37 (by kernel_rfl) rfl #[.int .i64 (rd l0 x11_1), .int .i64 0, .int .i64 300] rfl lU ?_; (with_reducible refine (impl_within.calls (rd l0 x11_1) 0 300 false _ A6.out).mono ?_); rintro e w' ⟨rfl, ⟨nd, rfl⟩⟩; refine ⟨_, rfl, ?_⟩))
        go_ret
        exact ⟨rU, dU⟩
      ·
       rw [if_neg c5] at H
       exact absurd H (by simp)
     ·
      rw [if_neg c4] at H
      exact absurd H (by simp)
    ·
     rw [if_neg c3] at H
     have c3b0 : decide (x11_1 < (l0.length : Int)) = false := decide_eq_false c3
     clear c3
     by_cases c8 : x3_1 > 300
     ·
      rw [if_pos c8] at H
      have c8b0 : decide (300 < x3_1) = true := decide_eq_true c8
      clear c8
      obtain rfl := Option.some.inj H
      go_wp2
      go_ret
      exact ⟨rU, dU⟩
     ·
      rw [if_neg c8] at H
      have c8b0 : decide (300 < x3_1) = false := decide_eq_false c8
      clear c8
      obtain rfl := Option.some.inj H
      go_wp2
      go_ret
      exact ⟨rU, dU⟩

/-! ### impl_NumOk: function 27 -/
def impl_NumOk.f (a0 : Int) : Option (Bool) := (impl_within.f a0 (-1000000000000) 1000000000000).bind fun t304 => (some t304)
set_option maxHeartbeats 8000000 in
set_option maxRecDepth 100000 in
theorem impl_NumOk.calls (a0 : Int) (r : Bool) (w : World) (h : impl_NumOk.f a0 = some r) :
  Calls Try.prog 27 #[.int .i64 a0] w fun e w' => e = .returned (.bool r) ∧ Drawn0 w w' := by
 have H : ((impl_within.f a0 (-1000000000000) 1000000000000).bind fun t304 => (some t304)) = some r := h
 clear h
 replace H := Option.bind_eq_some_iff.mp H
 obtain ⟨t304, A20, H⟩ := H
 replace H : (some t304) = some r := H
 have A2 := Aside0.mk A20
 clear A20
 obtain rfl := Option.some.inj H
 go_enter Try.func27, Try.ntmps27
 go_wp2_with (first | ((with_reducible refine gate_callee (f := 37) rfl ?_); refine goesL_ (some 4) rfl rfl Try.func37 (by kernel_rfl) rfl #[.int .i64 a0, .int .i64 (-1000000000000), .int .i64 1000000000000] rfl lU ?_; (with_reducible refine (impl_within.calls a0 (-1000000000000) 1000000000000 t304 _ A2.out).mono ?_); rintro e w' ⟨rfl, ⟨nd, rfl⟩⟩; refine ⟨_, rfl, ?_⟩))
 go_ret
 exact ⟨rU, dU⟩

/-! ### impl_ArrayOk_lit1: function 36 -/
def impl_ArrayOk_lit1.f (a0 : Int) : Option (Bool) := (impl_NumOk.f a0).bind fun t305 => (some (!t305))
set_option maxHeartbeats 8000000 in
set_option maxRecDepth 100000 in
theorem impl_ArrayOk_lit1.calls (a0 : Int) (r : Bool) (w : World) (h : impl_ArrayOk_lit1.f a0 = some r) :
  Calls Try.prog 36 #[.int .i64 a0] w fun e w' => e = .returned (.bool r) ∧ Drawn0 w w' := by
 have H : ((impl_NumOk.f a0).bind fun t305 => (some (!t305))) = some r := h
 clear h
 replace H := Option.bind_eq_some_iff.mp H
 obtain ⟨t305, A20, H⟩ := H
 replace H : (some (!t305)) = some r := H
 have A2 := Aside0.mk A20
 clear A20
 obtain rfl := Option.some.inj H
 go_enter Try.func36, Try.ntmps36
 go_wp2_with (first | ((with_reducible refine gate_callee (f := 27) rfl ?_); refine goesL_ (some 4) rfl rfl Try.func27 (by kernel_rfl) rfl #[.int .i64 a0] rfl lU ?_; (with_reducible refine (impl_NumOk.calls a0 t305 _ A2.out).mono ?_); rintro e w' ⟨rfl, ⟨nd, rfl⟩⟩; refine ⟨_, rfl, ?_⟩))
 go_ret
 exact ⟨rU, dU⟩

end Go.Proofs.Ytkjcpgjhpfocmaa.PFnTurned
