/- The walk of what a law reaches, for the law's row: written by a program of this session; it has no condition of its own. -/
import Derived.Test.YtkjcpgjhpfocmaaPFnTurnedx0
import Derived.Test.YtkjcpgjhpfocmaaQ
import Derived.Test.YtkjcpgjhpfocmaaPFnTurnedx1
namespace Go.Proofs.Ytkjcpgjhpfocmaa.PFnTurned
open Go.RowKit Go.Proofs.YtkjcpgjhpfocmaaW.PrintWords Go.Proofs.YtkjcpgjhpfocmaaW.PrintLast Go.Proofs.YtkjcpgjhpfocmaaW.PrintMore Go.Proofs.YtkjcpgjhpfocmaaQ
attribute [local go_sem] max2_int min2_int max_two min_two max_three min_three max_four min_four   -- for this text's walks alone
set_option linter.unusedVariables false
set_option linter.unusedSimpArgs false

/-! ### spec_l3Fill: function 41 -/
def spec_l3Fill.l0 : Nat → List Int → Int → List Int → Int → Int → List Int → List Int → Option (List Int × List Int × Int × Int)
 | 0, _, _, _, _, _, _, _ => none
 | k + 1, x1, x6, x1000, x1001, x1002, x148000, x148001 => (spec_SizeOf.f k x1).bind fun t148 => (if x6 < t148 then ((spec_l1DrawNum.f x1000 x1001 x1002).bind fun bt149 => (if x148001.length < 17592186044416 then (spec_l3Fill.l0 k x1 (wrap64 (x6 + 1)) x1000 bt149.2.1 bt149.2.2 x148000 (x148001 ++ [bt149.1])) else (none))) else (some (x148000, x148001, x1001, x1002)))
def spec_l3Fill.f (k : Nat) (s0_0 : List Int) (s0_1 : Int) (s0_2 : Int) (l1 : List Int) : Option (List Int × List Int × Int × Int) := (some (([] : List Int) : List Int)).bind fun y141 => (if y141.length + l1.length < 17592186044416 then (spec_l3Fill.l0 k l1 0 s0_0 s0_1 s0_2 (y141 ++ l1) ([] : List Int)) else (none))
def spec_l3Fill.T5 : Bool × List (List Nat × List Nat) := (true, [([], []), ([0], [0]), ([], []), ([2], [2]), ([3], [3]), ([1, 4, 3], [1, 4]), ([0, 1, 2, 3, 4, 5], []), ([6, 5, 5, 0, 1, 2, 3, 4, 5], [5, 6])])
def spec_l3Fill.B5 : List Nat := [0, 1, 0, 4, 12, 31, 63, 127]
theorem spec_l3Fill.tab5 : rtab .any (opsOf Try.f41 5) = spec_l3Fill.T5 := by kernel_rfl
theorem spec_l3Fill.bits5 : waitsOk spec_l3Fill.T5.2 spec_l3Fill.B5 = true := by kernel_rfl
set_option maxHeartbeats 8000000 in
set_option maxRecDepth 100000 in
theorem spec_l3Fill.calls (k : Nat) (g : Nat) (s0_0 : List Int) (s0_1 : Int) (s0_2 : Int) (A1 : Option Addr) (c1 : Nat) (l1 : List Int) (r1 : List Int) (r2 : List Int) (r3 : Int) (r4 : Int) (w0 w : World) (hI : IsS56 w0 w g s0_0 s0_1 s0_2) (hB : Below w0.heap.size w0 w) (hr1 : Kd.C (Kd.int .i64) w A1 l1.length l1) (hc1 : l1.length ≤ c1) (hf1 : ∀ ad, A1 = some ad → 0 < l1.length → ad.block ≠ g) (h : spec_l3Fill.f k s0_0 s0_1 s0_2 l1 = some (r1, r2, r3, r4)) :
  Calls Try.prog 41 #[.pointer (some ⟨g, 0, none⟩), .slice A1 l1.length c1] w fun e w' => ∃ v0_ v1_ : Value, e = .returned (.agg #[v0_, v1_]) ∧ Kd.R (Kd.int .i64) 3 w' w.heap.size (fun k_ => some k_ ≠ (v1_ : Value).ownBlock) v0_ r1 ∧ Kd.R (Kd.int .i64) 3 w' w.heap.size (fun k_ => some k_ ≠ (v0_ : Value).ownBlock) v1_ r2 ∧ IsS56 w0 w' g s0_0 r3 r4 ∧ Below w0.heap.size w0 w' ∧ KeepBut w w' g none := by
 have hu26 := Try.underlying26
 have HR1 := Aside0.mk hr1
 have HC1 := Aside0.mk hc1
 clear hr1 hc1
 have HI0 := Aside0.mk hI
 have HK := Aside0.mk (KeepBut.refl w g none)
 have HL := Aside0.mk hB.size
 clear hI
 have HW0 := Aside0.mk hB.size
 have HB := Aside0.mk hB
 clear hB
 have H : ((some (([] : List Int) : List Int)).bind fun y141 => (if y141.length + l1.length < 17592186044416 then (spec_l3Fill.l0 k l1 0 s0_0 s0_1 s0_2 (y141 ++ l1) ([] : List Int)) else (none))) = some (r1, r2, r3, r4) := h
 clear h
 obtain ⟨y141, hy141⟩ : ∃ y_ : List Int, y_ = (([] : List Int)) := ⟨_, rfl⟩
 replace H : (if y141.length + l1.length < 17592186044416 then (spec_l3Fill.l0 k l1 0 s0_0 s0_1 s0_2 (y141 ++ l1) ([] : List Int)) else (none)) = some (r1, r2, r3, r4) := by first | (rw [hy141]; with_reducible exact H) | (have H2_ := (Option.bind_some _ _).symm.trans H; rw [hy141]; with_reducible exact H2_) | (have H2_ := (Option.bind_some _ _).symm.trans H; with_reducible exact H2_) | with_reducible exact H | (rw [hy141]; exact H) | exact H
 have Ny141 := Aside0.mk hy141
 clear hy141
 by_cases c3 : y141.length + l1.length < 17592186044416
 ·
  rw [if_pos c3] at H
  have LMc3 := Aside0.mk c3
  clear c3
  obtain ⟨y144, hy144⟩ : ∃ y_ : List Int, y_ = (y141 ++ l1) := ⟨_, rfl⟩
  replace H : (spec_l3Fill.l0 k l1 0 s0_0 s0_1 s0_2 y144 ([] : List Int)) = some (r1, r2, r3, r4) := by first | (rw [hy144]; with_reducible exact H) | (have H2_ := (Option.bind_some _ _).symm.trans H; rw [hy144]; with_reducible exact H2_) | (have H2_ := (Option.bind_some _ _).symm.trans H; with_reducible exact H2_) | with_reducible exact H | (rw [hy144]; exact H) | exact H
  have Ny144 := Aside0.mk hy144
  clear hy144
  have H' := Aside0.mk H
  clear H
  go_enter Try.func41, Try.ntmps41
  go_wp2_with (first | ((with_reducible refine gate_dst (N := 4) rfl ?_); refine box_event ?hg (N := 4) ?hd (cs := #[.slice none 0 0, .slice none 0 0]) (t := 26) ?hr ?_; (case hd => rfl); (case hg => rfl); (case hr => first | (go_simp; done) | (go_simp; rfl)); intro gb140 hg w4 hbox hb; replace HB := Aside0.mk (below_step (by repeat (first | (with_reducible first | exact HB.out | apply below_alloc | apply pw_below_drewN | apply below_drew1 | refine below_set ?_ (IsS56.ge HI0.out)) | exact HB.out)) hb); have BK140 := Aside0.mk (hbox); have GW140 := Aside0.mk ((by rw [hg]; exact (keep_size (w := w) (g := g) (row := none) (hU HK.out)) : w.heap.size ≤ gb140)); have GE140 := Aside0.mk ((Nat.le_trans HW0.out (by rw [hg]; exact (keep_size (w := w) (g := g) (row := none) (hU HK.out)) : w.heap.size ≤ gb140) : w0.heap.size ≤ gb140)); replace HK := Aside0.mk (KeepBut.trans (hU HK.out) (KeepBut.of_below hb g none) (.inl rfl)); have NB0_140 := Aside0.mk ((by rw [hg]; exact Nat.ne_of_lt (IsS56.lt (show IsS56 w0 _ g s0_0 s0_1 s0_2 from by exact iU0 HI0.out)) : g ≠ gb140)); have NB140_0 := Aside0.mk ((by rw [hg]; exact Nat.ne_of_gt (IsS56.lt (show IsS56 w0 _ g s0_0 s0_1 s0_2 from by exact iU0 HI0.out)) : gb140 ≠ g)); replace HI0 := Aside0.mk (IsS56.below (iU0 HI0.out) hb); clear hb hbox hg) | ((with_reducible refine gate_dst (N := 7) rfl ?_); refine Kd.R_lit (Kd.int .i64) _ 3 ?hg (N := 7) ?hd (xs := ([] : List Int)) (inner := []) (ok := fun _ => True) (okp := fun _ => True) ?hr ?hp (fun _ hk => hk) trivial (Below.refl _ _) (Nat.le_refl _) (by simp) ?_; (case hd => rfl); (case hg => rfl); (case hr => first | (go_simp; done) | (go_simp; rfl)); (case hp => exact (Reps.none _ _)); intro v142 w5 ho6 hb hg_ hnew_; clear hg_ hnew_; (first | rw [← Ny141.out] at ho6 | (simp only [Int.reduceToNat] at ho6; rw [← Ny141.out] at ho6)); have HO143 := Aside0.mk (Kd.R_lower ho6 (keep_size (w := w) (g := g) (row := none) (by repeat (first | (with_reducible first | exact HK.out | apply KeepBut.set_ | apply keep_drewN | apply keep_drew | apply keep_alloc | refine keep_far ?_ GW140.out _) | exact HK.out)))); replace BK140 := Aside0.mk (kB BK140.out hb); replace HK := Aside0.mk (KeepBut.trans (by repeat (first | (with_reducible first | exact HK.out | apply KeepBut.set_ | apply keep_drewN | apply keep_drew | apply keep_alloc | refine keep_far ?_ GW140.out _) | exact HK.out)) (KeepBut.of_below hb g none) (.inl rfl)); replace HB := Aside0.mk (below_step (by repeat (first | (with_reducible first | exact HB.out | apply below_alloc | apply pw_below_drewN | apply below_drew1 | refine below_set ?_ (IsS56.ge HI0.out) | refine below_set ?_ GE140.out) | exact HB.out)) hb); replace HI0 := Aside0.mk (IsS56.below (by repeat (first | (with_reducible first | exact HI0.out | apply IsS56.alloc | apply IsS56.drewN | apply IsS56.drew | apply IsS56.set_1 | apply IsS56.set_2 | refine IsS56.far ?_ NB0_140.out _) | exact HI0.out)) hb); clear hb ho6) | ((with_reducible refine gate_builtin (b := .append) (xs := #[.tmp 7, .tmp 8]) rfl ?_); at_builtin; refine Kd.R_append_rows (Kd.int .i64) w.heap.size rfl (.tmp 7) (.tmp 8) 24 3 (.int .i64 0) 8 rfl Try.underlying24 info3 rfl (by decide) (by omega) v142 y141 l1 _ _ _ (fun _ => True) (fun _ => False) rfl rfl ?aO ?aR (fun _ _ h => h) (fun _ h => h.elim) ?aF (Below.refl _ _) ?aS ?aL ?_; (case aR => exact Kd.C_keep 0 HR1.out (by repeat (first | (with_reducible first | exact HK.out | apply KeepBut.set_ | apply keep_drewN | apply keep_drew | apply keep_alloc | refine keep_far ?_ GW140.out _) | exact HK.out)) hf1); (case aF => exact (fun _ _ => trivial)); (case aO => exact (RU HO143.out)); (case aS => exact (keep_size (w := w) (g := g) (row := none) (by repeat (first | (with_reducible first | exact HK.out | apply KeepBut.set_ | apply keep_drewN | apply keep_drew | apply keep_alloc | refine keep_far ?_ GW140.out _) | exact HK.out)))); (case aL => have := LMc3.out; omega); intro v145 w7 ho hb hg hat; rw [← Ny144.out] at ho; have n0_ := Aside0.mk (IsS56.grown (by repeat (first | (with_reducible first | exact HI0.out | apply IsS56.alloc | apply IsS56.drewN | apply IsS56.drew | apply IsS56.set_1 | apply IsS56.set_2 | refine IsS56.far ?_ NB0_140.out _) | exact HI0.out)) hg (IsS56.own_ne HI0.out HO143.out (by decide))); have n1_ := Aside0.mk (blk_grown (g := gb140) (o := .cells #[.slice none 0 0, .slice none 0 0] 26 (0, 0)) (kU BK140.out) hg (Kd.R_ne HO143.out BK140.out (by decide))); have n2_ := Aside0.mk (below_weaken (by repeat (first | (with_reducible first | exact HB.out | apply below_alloc | apply pw_below_drewN | apply below_drew1 | refine below_set ?_ (IsS56.ge HI0.out) | refine below_set ?_ GE140.out) | exact HB.out)) HL.out hb); have n3_ := Aside0.mk (KeepBut.trans (by repeat (first | (with_reducible first | exact HK.out | apply KeepBut.set_ | apply keep_drewN | apply keep_drew | apply keep_alloc | refine keep_far ?_ GW140.out _) | exact HK.out)) (KeepBut.of_grown hg g) (Kd.R_base2 HO143.out)); have n4_ := Aside0.mk (ho); clear HI0; clear BK140; clear HB; clear HK; clear HO143; have HI0 := n0_; have BK140 := n1_; have HB := n2_; have HK := n3_; have HO146 := n4_; clear n0_ n1_ n2_ n3_ n4_; clear ho hb hg hat; obtain ⟨Ao8, co8, eo8⟩ := Kd.R_slice HO146.out; subst eo8) | ((with_reducible refine gate_dst (N := 5) rfl ?_); refine box_event ?hg (N := 5) ?hd (cs := #[.slice none 0 0, .slice none 0 0]) (t := 26) ?hr ?_; (case hd => rfl); (case hg => rfl); (case hr => first | (go_simp; done) | (go_simp; rfl)); intro gb147 hg w9 hbox hb; replace HO146 := Aside0.mk (Kd.R_below (RU HO146.out) hb); replace HB := Aside0.mk (below_step (by repeat (first | (with_reducible first | exact HB.out | apply below_alloc | apply pw_below_drewN | apply below_drew1 | refine below_set ?_ (IsS56.ge HI0.out) | refine below_set ?_ GE140.out) | exact HB.out)) hb); have BK147 := Aside0.mk (hbox); have GW147 := Aside0.mk ((by rw [hg]; exact (keep_size (w := w) (g := g) (row := none) (by repeat (first | (with_reducible first | exact HK.out | apply KeepBut.set_ | apply keep_drewN | apply keep_drew | apply keep_alloc | refine keep_far ?_ GW140.out _) | exact HK.out))) : w.heap.size ≤ gb147)); have GE147 := Aside0.mk ((Nat.le_trans HW0.out (by rw [hg]; exact (keep_size (w := w) (g := g) (row := none) (by repeat (first | (with_reducible first | exact HK.out | apply KeepBut.set_ | apply keep_drewN | apply keep_drew | apply keep_alloc | refine keep_far ?_ GW140.out _) | exact HK.out))) : w.heap.size ≤ gb147) : w0.heap.size ≤ gb147)); replace HK := Aside0.mk (KeepBut.trans (by repeat (first | (with_reducible first | exact HK.out | apply KeepBut.set_ | apply keep_drewN | apply keep_drew | apply keep_alloc | refine keep_far ?_ GW140.out _) | exact HK.out)) (KeepBut.of_below hb g none) (.inl rfl)); have NB140_147 := Aside0.mk (kN BK140.out hg); have NB147_140 := Aside0.mk (kM BK140.out hg); replace BK140 := Aside0.mk (kB BK140.out hb); have NB0_147 := Aside0.mk ((by rw [hg]; exact Nat.ne_of_lt (IsS56.lt (show IsS56 w0 _ g s0_0 s0_1 s0_2 from by repeat (first | (with_reducible first | exact HI0.out | apply IsS56.alloc | apply IsS56.drewN | apply IsS56.drew | apply IsS56.set_1 | apply IsS56.set_2 | refine IsS56.far ?_ NB0_140.out _) | exact HI0.out))) : g ≠ gb147)); have NB147_0 := Aside0.mk ((by rw [hg]; exact Nat.ne_of_gt (IsS56.lt (show IsS56 w0 _ g s0_0 s0_1 s0_2 from by repeat (first | (with_reducible first | exact HI0.out | apply IsS56.alloc | apply IsS56.drewN | apply IsS56.drew | apply IsS56.set_1 | apply IsS56.set_2 | refine IsS56.far ?_ NB0_140.out _) | exact HI0.out))) : gb147 ≠ g)); replace HI0 := Aside0.mk (IsS56.below (by repeat (first | (with_reducible first | exact HI0.out | apply IsS56.alloc | apply IsS56.drewN | apply IsS56.drew | apply IsS56.set_1 | apply IsS56.set_2 | refine IsS56.far ?_ NB0_140.out _) | exact HI0.out)) hb); clear hb hbox hg; have hnb10 := NB147_140.out; have hnc10 := NB140_147.out; have hnb11 := NB147_0.out; have hnc11 := NB0_147.out; have hcz12_0 : w9.cell? ⟨gb147, 0, none⟩ = some (.slice none 0 0) := (blk_cell BK147.out 0).trans rfl; have hcz12_1 : w9.cell? ⟨gb147, 1, none⟩ = some (.slice none 0 0) := (blk_cell BK147.out 1).trans rfl; have hfz12_0 := blk_frozen BK147.out 0; have hfz12_1 := blk_frozen BK147.out 1))
  go_loopg [6] k (fun kq v6 w' => ∃ (x6_1 : Int) (x1001_1 : Int) (x1002_1 : Int) (x148001_1 : List Int) (u148001 : Value), v6 = .int .i64 x6_1 ∧ Aside0 (spec_l3Fill.l0 kq l1 x6_1 s0_0 x1001_1 x1002_1 y144 x148001_1 = some (r1, r2, r3, r4)) ∧ Aside0 (kq ≤ k) ∧ Aside0 (Kd.R (Kd.int .i64) 3 w' w.heap.size (fun k_ => some k_ ≠ (u148001 : Value).ownBlock) (.slice Ao8 y144.length co8) y144) ∧ Aside0 (Kd.R (Kd.int .i64) 3 w' w.heap.size (fun k_ => some k_ ≠ ((.slice Ao8 y144.length co8) : Value).ownBlock) u148001 x148001_1) ∧ Aside0 (w'.heap[gb140]? = some (.cells #[(.slice none 0 0), (.slice none 0 0)] 26 (0, 0))) ∧ Aside0 (w'.heap[gb147]? = some (.cells #[(.slice Ao8 y144.length co8), u148001] 26 (0, 0))) ∧ Aside0 (IsS56 w0 w' g s0_0 x1001_1 x1002_1) ∧ Aside0 (KeepBut w w' g none) ∧ Aside0 (Below w0.heap.size w0 w'))
  case atStart => exact ⟨(0), (s0_1), (s0_2), (([] : List Int)), (.slice none 0 0), (by first | rfl | (simp; done) | (simp [*]; done)), H', ⟨Nat.le_refl _⟩, ⟨by refine RU ?_; exact Kd.R_mono (Kd.R_far (p := ⟨gb147, 1, none⟩) (Kd.R_far (p := ⟨gb147, 0, none⟩) (Kd.R_types HO146.out BK147.out (by decide)) (fun _ hk => hk.2) (.slice Ao8 y144.length co8)) (fun _ hk => hk.2) (.slice none 0 0)) (fun _ hk => (by simp [Value.ownBlock]))⟩, ⟨by first | exact Kd.R_nil _ _ _ _ _ | exact Kd.N_nil _ _ _ _ _ | exact Kd.V_nil _ _ _ _ _ | exact Kd.Q_nil _ _ _ _ _ | exact Kd.S_nil _ _ _ _ _⟩, ⟨by refine kU ?_; refine blk_far ?_ NB140_147.out _; refine kU ?_; refine blk_far ?_ NB140_147.out _; refine kU ?_; exact BK140.out⟩, ⟨by refine kU ?_; refine blk_put (cs := #[.slice Ao8 y144.length co8, .slice none 0 0]) ?_ 1 _ rfl; refine kU ?_; refine blk_put (cs := #[.slice none 0 0, .slice none 0 0]) ?_ 0 _ rfl; refine kU ?_; exact BK147.out⟩, ⟨by repeat (first | (with_reducible first | exact HI0.out | apply IsS56.alloc | apply IsS56.drewN | apply IsS56.drew | apply IsS56.set_1 | apply IsS56.set_2 | refine IsS56.far ?_ NB0_140.out _ | refine IsS56.far ?_ NB0_147.out _) | exact HI0.out)⟩, ⟨by repeat (first | (with_reducible first | exact HK.out | apply KeepBut.set_ | apply keep_drewN | apply keep_drew | apply keep_alloc | refine keep_far ?_ GW140.out _ | refine keep_far ?_ GW147.out _) | exact HK.out)⟩, ⟨by repeat (first | (with_reducible first | exact HB.out | apply below_alloc | apply pw_below_drewN | apply below_drew1 | refine below_set ?_ (IsS56.ge HI0.out) | refine below_set ?_ GE140.out | refine below_set ?_ GE147.out) | exact HB.out)⟩⟩
  case round =>
   clear H'
   try clear c1
   try clear p2
   try clear c3
   try clear c4
   try clear c10
   try clear c11
   try clear hcz12_0
   try clear hcz12_1
   try clear hfz12_0
   try clear hfz12_1
   obtain ⟨x6_1, x1001_1, x1002_1, x148001_1, u148001, rfl, HA, HK1, HO_148000, HO_148001, BK140, BK147, HI0, HK, HB⟩ := hrel
   cases gk with
   | zero => exact absurd HA.out (by simp [spec_l3Fill.l0])
   | succ k1 =>
    have H := HA.out
    clear HA
    simp only [spec_l3Fill.l0] at H
    replace H := Option.bind_eq_some_iff.mp H
    obtain ⟨t148, A130, H⟩ := H
    replace H : (if x6_1 < t148 then ((spec_l1DrawNum.f s0_0 x1001_1 x1002_1).bind fun bt149 => (if x148001_1.length < 17592186044416 then (spec_l3Fill.l0 k1 l1 (wrap64 (x6_1 + 1)) s0_0 bt149.2.1 bt149.2.2 y144 (x148001_1 ++ [bt149.1])) else (none))) else (some (y144, x148001_1, x1001_1, x1002_1))) = some (r1, r2, r3, r4) := H
    have A13 := Aside0.mk A130
    clear A130
    by_cases c14 : x6_1 < t148
    ·
     rw [if_pos c14] at H
     have c14b0 : decide (x6_1 < t148) = true := decide_eq_true c14
     clear c14
     replace H := Option.bind_eq_some_iff.mp H
     obtain ⟨⟨t149, t150, t151⟩, A150, H⟩ := H
     replace H : (if x148001_1.length < 17592186044416 then (spec_l3Fill.l0 k1 l1 (wrap64 (x6_1 + 1)) s0_0 t150 t151 y144 (x148001_1 ++ [t149])) else (none)) = some (r1, r2, r3, r4) := H
     have A15 := Aside0.mk A150
     clear A150
     by_cases c16 : x148001_1.length < 17592186044416
     ·
      rw [if_pos c16] at H
      have LMc16 := Aside0.mk c16
      clear c16
      obtain ⟨y152, hy152⟩ : ∃ y_ : List Int, y_ = (x148001_1 ++ [t149]) := ⟨_, rfl⟩
      replace H : (spec_l3Fill.l0 k1 l1 (wrap64 (x6_1 + 1)) s0_0 t150 t151 y144 y152) = some (r1, r2, r3, r4) := by first | (rw [hy152]; with_reducible exact H) | (have H2_ := (Option.bind_some _ _).symm.trans H; rw [hy152]; with_reducible exact H2_) | (have H2_ := (Option.bind_some _ _).symm.trans H; with_reducible exact H2_) | with_reducible exact H | (rw [hy152]; exact H) | exact H
      have Ny152 := Aside0.mk hy152
      clear hy152
      have H' := Aside0.mk H
      clear H
      try go_wp2_with (first | ((with_reducible refine gate_callee (f := 39) rfl ?_); refine goesL_ (some 13) rfl rfl Try.func39 (by kernel_rfl) rfl #[.slice A1 l1.length c1] rfl lU ?_; (with_reducible refine (spec_SizeOf.calls k1 _ _ l1 t148 _ ?side1 ?side2 A13.out).mono ?_); (case side1 => exact Kd.C_keep 0 HR1.out (by repeat (first | (with_reducible first | exact HK.out | apply KeepBut.set_ | apply keep_drewN | apply keep_drew | apply keep_alloc | refine keep_far ?_ GW140.out _ | refine keep_far ?_ GW147.out _) | exact HK.out)) hf1); (case side2 => exact HC1.out); rintro e w' ⟨rfl, ⟨nd, rfl⟩⟩; refine ⟨_, rfl, ?_⟩; (try (rw [drewN_self wr]; generalize hq_ : World.drewN wr _ = wr; have n0_ : Aside0 (Kd.R (Kd.int .i64) 3 wr w.heap.size (fun k_ => some k_ ≠ (u148001 : Value).ownBlock) (.slice Ao8 y144.length co8) y144) := ⟨by rw [← hq_]; exact (RU HO_148000.out)⟩; have n1_ : Aside0 (Kd.R (Kd.int .i64) 3 wr w.heap.size (fun k_ => some k_ ≠ (.slice Ao8 y144.length co8 : Value).ownBlock) u148001 x148001_1) := ⟨by rw [← hq_]; exact (RU HO_148001.out)⟩; have n2_ : Aside0 (wr.heap[gb140]? = some (.cells #[.slice none 0 0, .slice none 0 0] 26 (0, 0))) := ⟨by rw [← hq_]; exact (kU BK140.out)⟩; have n3_ : Aside0 (wr.heap[gb147]? = some (.cells #[.slice Ao8 y144.length co8, u148001] 26 (0, 0))) := ⟨by rw [← hq_]; exact (kU BK147.out)⟩; have n4_ : Aside0 (IsS56 w0 wr g s0_0 x1001_1 x1002_1) := ⟨by rw [← hq_]; exact (by repeat (first | (with_reducible first | exact HI0.out | apply IsS56.alloc | apply IsS56.drewN | apply IsS56.drew | apply IsS56.set_1 | apply IsS56.set_2 | refine IsS56.far ?_ NB0_140.out _ | refine IsS56.far ?_ NB0_147.out _) | exact HI0.out))⟩; have n5_ : Aside0 (KeepBut w wr g none) := ⟨by rw [← hq_]; exact (by repeat (first | (with_reducible first | exact HK.out | apply KeepBut.set_ | apply keep_drewN | apply keep_drew | apply keep_alloc | refine keep_far ?_ GW140.out _ | refine keep_far ?_ GW147.out _) | exact HK.out))⟩; have n6_ : Aside0 (Below w0.heap.size w0 wr) := ⟨by rw [← hq_]; exact (by repeat (first | (with_reducible first | exact HB.out | apply below_alloc | apply pw_below_drewN | apply below_drew1 | refine below_set ?_ (IsS56.ge HI0.out) | refine below_set ?_ GE140.out | refine below_set ?_ GE147.out) | exact HB.out))⟩; clear HO_148000 HO_148001 BK140 BK147 HI0 HK HB hq_; have HO_148000 := n0_; have HO_148001 := n1_; have BK140 := n2_; have BK147 := n3_; have HI0 := n4_; have HK := n5_; have HB := n6_; clear n0_ n1_ n2_ n3_ n4_ n5_ n6_))))
      replace HO_148000 := Aside0.mk (Kd.R_drew HO_148000.out)
      replace HO_148001 := Aside0.mk (Kd.R_drew HO_148001.out)
      replace BK140 := Aside0.mk (blk_drew BK140.out)
      replace BK147 := Aside0.mk (blk_drew BK147.out)
      replace HI0 := Aside0.mk (IsS56.drew HI0.out)
      replace HK := Aside0.mk (keep_drew HK.out)
      replace HB := Aside0.mk (below_drew1 HB.out)
      refine start_ (n := 8) (S := fun w' => w'.cell? ⟨gb147, 0, none⟩ = some (.slice Ao8 y144.length co8) ∧ w'.cell? ⟨gb147, 1, none⟩ = some (u148001)) (ds := [7]) #[false, false, false, false, false, false, false, false] (by kernel_rfl) rfl rfl ⟨(blk_cell BK147.out 0).trans rfl, (blk_cell BK147.out 1).trans rfl⟩ (fun hHeld => ?_); refine with_tabW spec_l3Fill.tab5 spec_l3Fill.bits5 (fun HT_ HW_ => ?_)
      generalize wr.drew = w17 at HO_148000 HO_148001 BK140 BK147 HI0 HK HB hHeld ⊢
      refine pure_ (i := 0) (N := some 17) (v := ?_) (a' := ?_) #[true, false, false, false, false, false, false, false] rfl rfl (any_of HT_.out (by kernel_rfl)) (fun _ _ _ h => h) (Or.inl ⟨by rfl, ?_⟩) ?_ ?_
      rotate_left
      ·
       intro w'
       go_simp
       with_reducible rfl
      rotate_left
      ·
       simp only [Act.put, List.setIfInBounds_toArray, List.set_cons_zero, List.set_cons_succ, i64_w, i32_w]
       rfl
      refine pure_ (i := 2) (N := some 19) (v := ?_) (a' := ?_) #[true, false, true, false, false, false, false, false] rfl rfl (any_of HT_.out (by kernel_rfl)) (fun _ _ _ h => h) (Or.inl ⟨by rfl, ?_⟩) ?_ ?_
      rotate_left
      ·
       intro w'
       go_simp
       with_reducible rfl
      rotate_left
      ·
       simp only [Act.put, List.setIfInBounds_toArray, List.set_cons_zero, List.set_cons_succ, i64_w, i32_w]
       rfl
      refine take_ (i := 1) (N := some 18) (v := ?_) (a' := ?_) #[true, true, true, false, false, false, false, false] rfl rfl (take_ofW HT_.out HW_.out (by kernel_rfl)) (fun _ _ _ h => h) (Or.inl ⟨by rfl, ?_⟩) hHeld ?_ ?_
      rotate_left
      ·
       rintro w' ⟨s0, s1⟩
       go_simp
       with_reducible rfl
      rotate_left
      ·
       simp only [Act.put, List.setIfInBounds_toArray, List.set_cons_zero, List.set_cons_succ, i64_w, i32_w]
       rfl
      refine one_ (i := 3) (N := some 20) #[true, true, true, true, false, false, false, false] rfl rfl (one_of HT_.out (by kernel_rfl)) (by decide) (fun K hK => ?_)
      refine goes_ Try.func46 (by kernel_rfl) rfl #[.pointer (some ⟨g, 0, none⟩)] (by rfl) rfl rfl lU ?_
      with_reducible refine (spec_l1DrawNum.calls g s0_0 x1001_1 x1002_1 t149 t150 t151 w0 _ ?side1 ?side2 A15.out).mono ?_
      (case side1 => repeat (first | (with_reducible first | exact HI0.out | apply IsS56.alloc | apply IsS56.drewN | apply IsS56.drew | apply IsS56.set_1 | apply IsS56.set_2 | refine IsS56.far ?_ NB0_140.out _ | refine IsS56.far ?_ NB0_147.out _) | exact HI0.out))
      (case side2 => repeat (first | (with_reducible first | exact HB.out | apply below_alloc | apply pw_below_drewN | apply below_drew1 | refine below_set ?_ (IsS56.ge HI0.out) | refine below_set ?_ GE140.out | refine below_set ?_ GE147.out) | exact HB.out))
      rintro e w18 ⟨rfl, hi, hb, hk⟩
      refine ⟨_, rfl, ?_⟩
      replace HO_148000 := Aside0.mk (Kd.R_mono (Kd.R_keep (IsS56.apart (show IsS56 w0 _ g s0_0 x1001_1 x1002_1 from by repeat (first | (with_reducible first | exact HI0.out | apply IsS56.alloc | apply IsS56.drewN | apply IsS56.drew | apply IsS56.set_1 | apply IsS56.set_2 | refine IsS56.far ?_ NB0_140.out _ | refine IsS56.far ?_ NB0_147.out _) | exact HI0.out)) (RU HO_148000.out) (by decide)) hk (fun _ h => h.2)) (fun _ h => h.1))
      replace HO_148001 := Aside0.mk (Kd.R_mono (Kd.R_keep (IsS56.apart (show IsS56 w0 _ g s0_0 x1001_1 x1002_1 from by repeat (first | (with_reducible first | exact HI0.out | apply IsS56.alloc | apply IsS56.drewN | apply IsS56.drew | apply IsS56.set_1 | apply IsS56.set_2 | refine IsS56.far ?_ NB0_140.out _ | refine IsS56.far ?_ NB0_147.out _) | exact HI0.out)) (RU HO_148001.out) (by decide)) hk (fun _ h => h.2)) (fun _ h => h.1))
      replace BK140 := Aside0.mk (KeepBut.blk hk (g' := gb140) (o := .cells #[.slice none 0 0, .slice none 0 0] 26 (0, 0)) (kU BK140.out) NB140_0.out (by simp))
      replace BK147 := Aside0.mk (KeepBut.blk hk (g' := gb147) (o := .cells #[.slice Ao8 y144.length co8, u148001] 26 (0, 0)) (kU BK147.out) NB147_0.out (by simp))
      replace HK := Aside0.mk (KeepBut.trans (by repeat (first | (with_reducible first | exact HK.out | apply KeepBut.set_ | apply keep_drewN | apply keep_drew | apply keep_alloc | refine keep_far ?_ GW140.out _ | refine keep_far ?_ GW147.out _) | exact HK.out)) hk (.inl rfl))
      replace HB := Aside0.mk (hb)
      replace HI0 := Aside0.mk (hi)
      (try clear hb)
      (try clear hb2)
      (try clear hk)
      (try clear hi)
      refine hK.out _ _ ⟨(blk_cell BK147.out 0).trans rfl, (blk_cell BK147.out 1).trans rfl⟩ (fun hHeld => ?_)
      clear hK K
      refine norm_ (a' := ?_) ?_ ?_
      rotate_left
      ·
       show Act.put _ (some 20) _ = _
       simp only [Act.put, List.setIfInBounds_toArray, List.set_cons_zero, List.set_cons_succ, i64_w, i32_w]
       rfl
      refine one_ (i := 4) (N := some 21) #[true, true, true, true, true, false, false, false] rfl rfl (one_of HT_.out (by kernel_rfl)) (by decide) (fun K hK => ?_)
      refine value_ (w1 := ?_) (v := ?_) (by rfl) rfl ?_ ?_
      rotate_left 2
      ·
       go_simp
       constructor
       ·
        rfl
       ·
        rfl
      refine hK.out _ _ ⟨(blk_cell (blk_alloc BK147.out _) 0).trans rfl, (blk_cell (blk_alloc BK147.out _) 1).trans rfl⟩ (fun hHeld => ?_)
      clear hK K
      refine norm_ (a' := ?_) ?_ ?_
      rotate_left
      ·
       show Act.put _ (some 21) _ = _
       simp only [Act.put, List.setIfInBounds_toArray, List.set_cons_zero, List.set_cons_succ, i64_w, i32_w]
       rfl
      refine one_ (i := 5) (N := some 22) #[true, true, true, true, true, true, false, false] rfl rfl (one_of HT_.out (by kernel_rfl)) (by decide) (fun K hK => ?_)
      refine Kd.R_append_step (Kd.int .i64) w.heap.size (by rfl) (.tmp 18) (.tmp 21) 24 3 (.int .i64 0) 8 rfl Try.underlying24 info3 rfl (by decide) (by omega) u148001 x148001_1 t149 [.int .i64 t149] (fun k_ => some k_ ≠ (.slice Ao8 y144.length co8 : Value).ownBlock) (fun _ => False) rfl rfl ?aP (fun _ hk => hk.elim) ?aF ?aO (Below.refl _ _) ?aS ?aL ?_
      (case aP => exact rfl)
      (case aF => exact (fun k_ hk => Kd.fresh' (Kd.R_lt (RU HO_148000.out)) k_ hk))
      (case aO => exact (RU HO_148001.out))
      (case aS => exact (keep_size (w := w) (g := g) (row := none) (by repeat (first | (with_reducible first | exact HK.out | apply KeepBut.set_ | apply keep_drewN | apply keep_drew | apply keep_alloc | refine keep_far ?_ GW140.out _ | refine keep_far ?_ GW147.out _) | exact HK.out))))
      (case aL => have := LMc16.out; omega)
      intro v153 w19 ho hb hg hat
      rw [← Ny152.out] at ho
      have n0_ := Aside0.mk (Kd.R_after (ok := (fun _ => True)) (by refine RU ?_; exact Kd.R_mono HO_148000.out (fun _ hk => ⟨trivial, hk⟩)) hg hat)
      have n1_ := Aside0.mk (blk_grown (g := gb140) (o := .cells #[.slice none 0 0, .slice none 0 0] 26 (0, 0)) (kU BK140.out) hg (Kd.R_ne HO_148001.out BK140.out (by decide)))
      have n2_ := Aside0.mk (blk_grown (g := gb147) (o := .cells #[.slice Ao8 y144.length co8, u148001] 26 (0, 0)) (kU BK147.out) hg (Kd.R_ne HO_148001.out BK147.out (by decide)))
      have n3_ := Aside0.mk (IsS56.grown (by repeat (first | (with_reducible first | exact HI0.out | apply IsS56.alloc | apply IsS56.drewN | apply IsS56.drew | apply IsS56.set_1 | apply IsS56.set_2 | refine IsS56.far ?_ NB0_140.out _ | refine IsS56.far ?_ NB0_147.out _) | exact HI0.out)) hg (IsS56.own_ne HI0.out HO_148001.out (by decide)))
      have n4_ := Aside0.mk (below_weaken (by repeat (first | (with_reducible first | exact HB.out | apply below_alloc | apply pw_below_drewN | apply below_drew1 | refine below_set ?_ (IsS56.ge HI0.out) | refine below_set ?_ GE140.out | refine below_set ?_ GE147.out) | exact HB.out)) HL.out hb)
      have n5_ := Aside0.mk (KeepBut.trans (by repeat (first | (with_reducible first | exact HK.out | apply KeepBut.set_ | apply keep_drewN | apply keep_drew | apply keep_alloc | refine keep_far ?_ GW140.out _ | refine keep_far ?_ GW147.out _) | exact HK.out)) (KeepBut.of_grown hg g) (Kd.R_base2 HO_148001.out))
      have n6_ := Aside0.mk (ho)
      clear HO_148000 BK140 BK147 HI0 HB HK HO_148001
      have HO_148000 := n0_
      have BK140 := n1_
      have BK147 := n2_
      have HI0 := n3_
      have HB := n4_
      have HK := n5_
      have HO154 := n6_
      clear n0_ n1_ n2_ n3_ n4_ n5_ n6_
      clear ho hb hg hat
      obtain ⟨Ao20, co20, eo20⟩ := Kd.R_slice HO154.out
      (first | subst eo20 | (injection eo20 with f1_ f2_ f3_; have f4_ := f1_.symm; have f5_ := f3_.symm; clear f1_ f2_ f3_; subst f4_; subst f5_))
      refine hK.out _ _ ⟨(blk_cell BK147.out 0).trans rfl, (blk_cell BK147.out 1).trans rfl⟩ (fun hHeld => ?_)
      clear hK K
      refine norm_ (a' := ?_) ?_ ?_
      rotate_left
      ·
       show Act.put _ (some 22) _ = _
       simp only [Act.put, List.setIfInBounds_toArray, List.set_cons_zero, List.set_cons_succ, i64_w, i32_w]
       rfl
      refine pure_ (i := 6) (N := some 23) (v := ?_) (a' := ?_) #[true, true, true, true, true, true, true, false] rfl rfl (any_of HT_.out (by kernel_rfl)) (fun _ _ _ h => h) (Or.inl ⟨by rfl, ?_⟩) ?_ ?_
      rotate_left
      ·
       intro w'
       go_simp
       with_reducible rfl
      rotate_left
      ·
       simp only [Act.put, List.setIfInBounds_toArray, List.set_cons_zero, List.set_cons_succ, i64_w, i32_w]
       rfl
      refine last_ (i := 7) (N := none) #[true, true, true, true, true, true, true, true] rfl rfl (one_of HT_.out (by kernel_rfl)) (by decide) (fun K hK => ?_)
      have hs21 : w19.cell? ⟨gb147, 1, none⟩ = some (u148001) := (blk_cell BK147.out 1).trans rfl
      have hfs21 := blk_frozen BK147.out 1
      have hns21_0 := NB140_147.out
      have hms21_0 := NB147_140.out
      refine skip_ (w1 := ?_) (by rfl) rfl ?_ ?_
      rotate_left
      ·
       go_simp
       rfl
      refine hK.out _ _ ?_
      clear hK K
      refine done_ (done_of HT_.out (by kernel_rfl)) ?_
      try go_wp2
      go_roundg k1
      case measure => have := HK1.out; omega
      case rel => exact ⟨(wrap64 (x6_1 + 1)), (t150), (t151), (y152), (.slice Ao20 y152.length co20), (by first | rfl | (simp; done) | (simp [*]; done)), H', ⟨by have := HK1.out; omega⟩, ⟨by refine RU ?_; exact Kd.R_mono (Kd.R_far (p := ⟨gb147, 1, none⟩) (Kd.R_types HO_148000.out BK147.out (by decide)) (fun _ hk => hk.2) (.slice Ao20 y152.length co20)) (fun _ hk => hk.1.2)⟩, ⟨by refine RU ?_; exact Kd.R_mono (Kd.R_far (p := ⟨gb147, 1, none⟩) (Kd.R_types HO154.out BK147.out (by decide)) (fun _ hk => hk.2) (.slice Ao20 y152.length co20)) (fun _ hk => hk.1)⟩, ⟨by refine kU ?_; refine blk_far ?_ NB140_147.out _; refine kU ?_; exact BK140.out⟩, ⟨by refine kU ?_; refine blk_put (cs := #[.slice Ao8 y144.length co8, u148001]) ?_ 1 _ rfl; refine kU ?_; exact BK147.out⟩, ⟨by repeat (first | (with_reducible first | exact HI0.out | apply IsS56.alloc | apply IsS56.drewN | apply IsS56.drew | apply IsS56.set_1 | apply IsS56.set_2 | refine IsS56.far ?_ NB0_140.out _ | refine IsS56.far ?_ NB0_147.out _) | exact HI0.out)⟩, ⟨by repeat (first | (with_reducible first | exact HK.out | apply KeepBut.set_ | apply keep_drewN | apply keep_drew | apply keep_alloc | refine keep_far ?_ GW140.out _ | refine keep_far ?_ GW147.out _) | exact HK.out)⟩, ⟨by repeat (first | (with_reducible first | exact HB.out | apply below_alloc | apply pw_below_drewN | apply below_drew1 | refine below_set ?_ (IsS56.ge HI0.out) | refine below_set ?_ GE140.out | refine below_set ?_ GE147.out) | exact HB.out)⟩⟩
     ·
      rw [if_neg c16] at H
      exact absurd H (by simp)
    ·
     rw [if_neg c14] at H
     have c14b0 : decide (x6_1 < t148) = false := decide_eq_false c14
     clear c14
     simp only [Option.some.injEq, Prod.mk.injEq] at H
     obtain ⟨rfl, rfl, rfl, rfl⟩ := H
     go_wp2_with (first | ((with_reducible refine gate_callee (f := 39) rfl ?_); refine goesL_ (some 13) rfl rfl Try.func39 (by kernel_rfl) rfl #[.slice A1 l1.length c1] rfl lU ?_; (with_reducible refine (spec_SizeOf.calls k1 _ _ l1 t148 _ ?side1 ?side2 A13.out).mono ?_); (case side1 => exact Kd.C_keep 0 HR1.out (by repeat (first | (with_reducible first | exact HK.out | apply KeepBut.set_ | apply keep_drewN | apply keep_drew | apply keep_alloc | refine keep_far ?_ GW140.out _ | refine keep_far ?_ GW147.out _) | exact HK.out)) hf1); (case side2 => exact HC1.out); rintro e w' ⟨rfl, ⟨nd, rfl⟩⟩; refine ⟨_, rfl, ?_⟩; (try (rw [drewN_self wr]; generalize hq_ : World.drewN wr _ = wr; have n0_ : Aside0 (Kd.R (Kd.int .i64) 3 wr w.heap.size (fun k_ => some k_ ≠ (u148001 : Value).ownBlock) (.slice Ao8 y144.length co8) y144) := ⟨by rw [← hq_]; exact (RU HO_148000.out)⟩; have n1_ : Aside0 (Kd.R (Kd.int .i64) 3 wr w.heap.size (fun k_ => some k_ ≠ (.slice Ao8 y144.length co8 : Value).ownBlock) u148001 x148001_1) := ⟨by rw [← hq_]; exact (RU HO_148001.out)⟩; have n2_ : Aside0 (wr.heap[gb140]? = some (.cells #[.slice none 0 0, .slice none 0 0] 26 (0, 0))) := ⟨by rw [← hq_]; exact (kU BK140.out)⟩; have n3_ : Aside0 (wr.heap[gb147]? = some (.cells #[.slice Ao8 y144.length co8, u148001] 26 (0, 0))) := ⟨by rw [← hq_]; exact (kU BK147.out)⟩; have n4_ : Aside0 (IsS56 w0 wr g s0_0 x1001_1 x1002_1) := ⟨by rw [← hq_]; exact (by repeat (first | (with_reducible first | exact HI0.out | apply IsS56.alloc | apply IsS56.drewN | apply IsS56.drew | apply IsS56.set_1 | apply IsS56.set_2 | refine IsS56.far ?_ NB0_140.out _ | refine IsS56.far ?_ NB0_147.out _) | exact HI0.out))⟩; have n5_ : Aside0 (KeepBut w wr g none) := ⟨by rw [← hq_]; exact (by repeat (first | (with_reducible first | exact HK.out | apply KeepBut.set_ | apply keep_drewN | apply keep_drew | apply keep_alloc | refine keep_far ?_ GW140.out _ | refine keep_far ?_ GW147.out _) | exact HK.out))⟩; have n6_ : Aside0 (Below w0.heap.size w0 wr) := ⟨by rw [← hq_]; exact (by repeat (first | (with_reducible first | exact HB.out | apply below_alloc | apply pw_below_drewN | apply below_drew1 | refine below_set ?_ (IsS56.ge HI0.out) | refine below_set ?_ GE140.out | refine below_set ?_ GE147.out) | exact HB.out))⟩; clear HO_148000 HO_148001 BK140 BK147 HI0 HK HB hq_; have HO_148000 := n0_; have HO_148001 := n1_; have BK140 := n2_; have BK147 := n3_; have HI0 := n4_; have HK := n5_; have HB := n6_; clear n0_ n1_ n2_ n3_ n4_ n5_ n6_)); have hnb22 := NB147_140.out; have hnc22 := NB140_147.out; have hnb23 := NB147_0.out; have hnc23 := NB0_147.out; have hcz24_0 : wr.cell? ⟨gb147, 0, none⟩ = some (.slice Ao8 y144.length co8) := (blk_cell BK147.out 0).trans rfl; have hcz24_1 : wr.cell? ⟨gb147, 1, none⟩ = some (u148001) := (blk_cell BK147.out 1).trans rfl; have hfz24_0 := blk_frozen BK147.out 0; have hfz24_1 := blk_frozen BK147.out 1; have hnb25 := NB140_0.out; have hnc25 := NB0_140.out; have hcz26_0 : wr.cell? ⟨gb140, 0, none⟩ = some (.slice none 0 0) := (blk_cell BK140.out 0).trans rfl; have hcz26_1 : wr.cell? ⟨gb140, 1, none⟩ = some (.slice none 0 0) := (blk_cell BK140.out 1).trans rfl; have hfz26_0 := blk_frozen BK140.out 0; have hfz26_1 := blk_frozen BK140.out 1; obtain ⟨Ao27, co27, eo27⟩ := Kd.R_slice HO_148001.out; subst eo27))
     refine bodyPost_ret (results_cell_row rfl _ _ gb140 26 #[.slice Ao8 y144.length co8, .slice Ao27 x148001_1.length co27] (0, 0) _ rfl (by refine kU ?_; refine blk_put (cs := #[.slice Ao8 y144.length co8, .slice none 0 0]) ?_ 1 _ rfl; refine kU ?_; refine blk_put (cs := #[.slice none 0 0, .slice none 0 0]) ?_ 0 _ rfl; refine kU ?_; exact BK140.out) Try.underlying26 rfl (by kernel_rfl)) rfl ?_
     exact ⟨_, _, by first | rfl | (simp [errW_none, errW_some] <;> rfl) | (simp [*, errW_none, errW_some] <;> rfl), by refine RU ?_; exact Kd.R_mono (Kd.R_far (p := ⟨gb140, 1, none⟩) (Kd.R_far (p := ⟨gb140, 0, none⟩) (Kd.R_types HO_148000.out BK140.out (by decide)) (fun _ hk => hk.2) (.slice Ao8 y144.length co8)) (fun _ hk => hk.2) (.slice Ao27 x148001_1.length co27)) (fun _ hk => hk.1), by refine RU ?_; exact Kd.R_mono (Kd.R_far (p := ⟨gb140, 1, none⟩) (Kd.R_far (p := ⟨gb140, 0, none⟩) (Kd.R_types HO_148001.out BK140.out (by decide)) (fun _ hk => hk.2) (.slice Ao8 y144.length co8)) (fun _ hk => hk.2) (.slice Ao27 x148001_1.length co27)) (fun _ hk => hk.1), by repeat (first | (with_reducible first | exact HI0.out | apply IsS56.alloc | apply IsS56.drewN | apply IsS56.drew | apply IsS56.set_1 | apply IsS56.set_2 | refine IsS56.far ?_ NB0_140.out _ | refine IsS56.far ?_ NB0_147.out _) | exact HI0.out), by repeat (first | (with_reducible first | exact HB.out | apply below_alloc | apply pw_below_drewN | apply below_drew1 | refine below_set ?_ (IsS56.ge HI0.out) | refine below_set ?_ GE140.out | refine below_set ?_ GE147.out) | exact HB.out), by repeat (first | (with_reducible first | exact HK.out | apply KeepBut.set_ | apply keep_drewN | apply keep_drew | apply keep_alloc | refine keep_far ?_ GW140.out _ | refine keep_far ?_ GW147.out _) | exact HK.out)⟩
 ·
  rw [if_neg c3] at H
  exact absurd H (by simp)

/-! ### spec_l2DrawRight: function 42 -/
def spec_l2DrawRight.j0 : Nat → Int → Bool → List Int → Int → Int → Option (List Int × Int × Int)
 | 0, _, _, _, _, _ => none
 | k + 1, x4, x8, x1000, x1001, x1002 => if x8 = true then ((spec_l1Below.f x1000 x1001 x1002 6).bind fun bt161 => (some ((([bt161.1] : List Int)), bt161.2.1, bt161.2.2))) else (if x4 = 3 then ((spec_l1Below.f x1000 x1001 x1002 4).bind fun bt167 => ((spec_l1Below.f x1000 bt167.2.1 bt167.2.2 3).bind fun bt170 => (some ((([bt167.1, wrap64 (1 + bt170.1)] : List Int)), bt170.2.1, bt170.2.2)))) else ((spec_l1Below.f x1000 x1001 x1002 3).bind fun bt176 => ((spec_l1Below.f x1000 bt176.2.1 bt176.2.2 2).bind fun bt179 => ((spec_l1Below.f x1000 bt179.2.1 bt179.2.2 4).bind fun bt182 => (some ((([wrap64 (1 + bt176.1), wrap64 (1 + bt179.1), bt182.1] : List Int)), bt182.2.1, bt182.2.2))))))
def spec_l2DrawRight.f (k : Nat) (s0_0 : List Int) (s0_1 : Int) (s0_2 : Int) : Option (List Int × Int × Int) := (spec_l1Below.f s0_0 s0_1 s0_2 5).bind fun bt155 => (if bt155.1 = 0 then (some ((([] : List Int)), bt155.2.1, bt155.2.2)) else (if bt155.1 = 1 then (spec_l2DrawRight.j0 k bt155.1 (bt155.1 == 1) s0_0 bt155.2.1 bt155.2.2) else (spec_l2DrawRight.j0 k bt155.1 (bt155.1 == 2) s0_0 bt155.2.1 bt155.2.2)))
set_option maxHeartbeats 8000000 in
set_option maxRecDepth 100000 in
theorem spec_l2DrawRight.calls (k : Nat) (g : Nat) (s0_0 : List Int) (s0_1 : Int) (s0_2 : Int) (r1 : List Int) (r2 : Int) (r3 : Int) (w0 w : World) (hI : IsS56 w0 w g s0_0 s0_1 s0_2) (hB : Below w0.heap.size w0 w) (h : spec_l2DrawRight.f k s0_0 s0_1 s0_2 = some (r1, r2, r3)) :
  Calls Try.prog 42 #[.pointer (some ⟨g, 0, none⟩)] w fun e w' => ∃ v0_ : Value, e = .returned (v0_) ∧ Kd.R (Kd.int .i64) 3 w' w.heap.size (fun _ => True) v0_ r1 ∧ IsS56 w0 w' g s0_0 r2 r3 ∧ Below w0.heap.size w0 w' ∧ KeepBut w w' g none := by
 have HI0 := Aside0.mk hI
 have HK := Aside0.mk (KeepBut.refl w g none)
 have HL := Aside0.mk hB.size
 clear hI
 have HW0 := Aside0.mk hB.size
 have HB := Aside0.mk hB
 clear hB
 have H : ((spec_l1Below.f s0_0 s0_1 s0_2 5).bind fun bt155 => (if bt155.1 = 0 then (some ((([] : List Int)), bt155.2.1, bt155.2.2)) else (if bt155.1 = 1 then (spec_l2DrawRight.j0 k bt155.1 (bt155.1 == 1) s0_0 bt155.2.1 bt155.2.2) else (spec_l2DrawRight.j0 k bt155.1 (bt155.1 == 2) s0_0 bt155.2.1 bt155.2.2)))) = some (r1, r2, r3) := h
 clear h
 replace H := Option.bind_eq_some_iff.mp H
 obtain ⟨⟨t155, t156, t157⟩, A20, H⟩ := H
 replace H : (if t155 = 0 then (some ((([] : List Int)), t156, t157)) else (if t155 = 1 then (spec_l2DrawRight.j0 k t155 (t155 == 1) s0_0 t156 t157) else (spec_l2DrawRight.j0 k t155 (t155 == 2) s0_0 t156 t157))) = some (r1, r2, r3) := H
 have A2 := Aside0.mk A20
 clear A20
 by_cases c3 : t155 = 0
 ·
  rw [if_pos c3] at H
  have c3b0 : (t155 == 0) = true := beq_iff_eq.mpr c3
  have c3b1 : (t155 != 0) = false := bne_eq_false_iff_eq.mpr c3
  clear c3
  obtain ⟨y158, hy158⟩ : ∃ y_ : List Int, y_ = (([] : List Int)) := ⟨_, rfl⟩
  replace H : (some (y158, t156, t157)) = some (r1, r2, r3) := by first | (rw [hy158]; with_reducible exact H) | (have H2_ := (Option.bind_some _ _).symm.trans H; rw [hy158]; with_reducible exact H2_) | (have H2_ := (Option.bind_some _ _).symm.trans H; with_reducible exact H2_) | with_reducible exact H | (rw [hy158]; exact H) | exact H
  have Ny158 := Aside0.mk hy158
  clear hy158
  simp only [Option.some.injEq, Prod.mk.injEq] at H
  obtain ⟨rfl, rfl, rfl⟩ := H
  go_enter Try.func42, Try.ntmps42
  go_wp2_with (first | ((with_reducible refine gate_callee (f := 31) rfl ?_); refine goesL_ (some 4) rfl rfl Try.func31 (by kernel_rfl) rfl #[.pointer (some ⟨g, 0, none⟩), .int .i64 5] rfl lU ?_; (with_reducible refine (spec_l1Below.calls g s0_0 s0_1 s0_2 5 t155 t156 t157 w0 _ ?side1 ?side2 A2.out).mono ?_); (case side1 => exact iU0 HI0.out); (case side2 => repeat (first | (with_reducible first | exact HB.out | apply below_alloc | apply pw_below_drewN | apply below_drew1 | refine below_set ?_ (IsS56.ge HI0.out)) | exact HB.out)); rintro e w4 ⟨rfl, hi, hb, hk⟩; refine ⟨_, rfl, ?_⟩; replace HK := Aside0.mk (KeepBut.trans (hU HK.out) hk (.inl rfl)); replace HB := Aside0.mk (hb); replace HI0 := Aside0.mk (hi); (try clear hb); (try clear hb2); (try clear hk); (try clear hi)) | ((with_reducible refine gate_dst (N := 7) rfl ?_); refine Kd.R_lit (Kd.int .i64) _ 3 ?hg (N := 7) ?hd (xs := ([] : List Int)) (inner := []) (ok := fun _ => True) (okp := fun _ => True) ?hr ?hp (fun _ hk => hk) trivial (Below.refl _ _) (Nat.le_refl _) (by simp) ?_; (case hd => rfl); (case hg => rfl); (case hr => first | (go_simp; done) | (go_simp; rfl)); (case hp => exact (Reps.none _ _)); intro v159 w5 ho6 hb hg_ hnew_; clear hg_ hnew_; (first | rw [← Ny158.out] at ho6 | (simp only [Int.reduceToNat] at ho6; rw [← Ny158.out] at ho6)); have HO160 := Aside0.mk (Kd.R_lower ho6 (keep_size (w := w) (g := g) (row := none) (hU HK.out))); replace HK := Aside0.mk (KeepBut.trans (hU HK.out) (KeepBut.of_below hb g none) (.inl rfl)); replace HB := Aside0.mk (below_step (by repeat (first | (with_reducible first | exact HB.out | apply below_alloc | apply pw_below_drewN | apply below_drew1 | refine below_set ?_ (IsS56.ge HI0.out)) | exact HB.out)) hb); replace HI0 := Aside0.mk (IsS56.below (iU0 HI0.out) hb); clear hb ho6))
  go_ret
  exact ⟨_, by first | rfl | (simp [errW_none, errW_some] <;> rfl) | (simp [*, errW_none, errW_some] <;> rfl), by refine RU ?_; exact HO160.out, by exact iU0 HI0.out, by repeat (first | (with_reducible first | exact HB.out | apply below_alloc | apply pw_below_drewN | apply below_drew1 | refine below_set ?_ (IsS56.ge HI0.out)) | exact HB.out), by exact hU HK.out⟩
 ·
  rw [if_neg c3] at H
  have c3b0 : (t155 == 0) = false := beq_eq_false_iff_ne.mpr c3
  have c3b1 : (t155 != 0) = true := bne_iff_ne.mpr c3
  have HC7 := Aside0.mk H
  clear H
  go_enter Try.func42, Try.ntmps42
  go_upto_if 8 with (first | ((with_reducible refine gate_callee (f := 31) rfl ?_); refine goesL_ (some 4) rfl rfl Try.func31 (by kernel_rfl) rfl #[.pointer (some ⟨g, 0, none⟩), .int .i64 5] rfl lU ?_; (with_reducible refine (spec_l1Below.calls g s0_0 s0_1 s0_2 5 t155 t156 t157 w0 _ ?side1 ?side2 A2.out).mono ?_); (case side1 => exact iU0 HI0.out); (case side2 => repeat (first | (with_reducible first | exact HB.out | apply below_alloc | apply pw_below_drewN | apply below_drew1 | refine below_set ?_ (IsS56.ge HI0.out)) | exact HB.out)); rintro e w8 ⟨rfl, hi, hb, hk⟩; refine ⟨_, rfl, ?_⟩; replace HK := Aside0.mk (KeepBut.trans (hU HK.out) hk (.inl rfl)); replace HB := Aside0.mk (hb); replace HI0 := Aside0.mk (hi); (try clear hb); (try clear hb2); (try clear hk); (try clear hi)))
  (try simp only [Act.put, List.setIfInBounds_toArray, List.set_cons_zero, List.set_cons_succ])
  go_cut [8] (fun v8 wc => ∃ (kq : Nat) (x8_6 : Bool), v8 = .bool x8_6 ∧ Aside0 (spec_l2DrawRight.j0 kq t155 x8_6 s0_0 t156 t157 = some (r1, r2, r3)) ∧ Aside0 (kq ≤ k) ∧ Aside0 (IsS56 w0 wc g s0_0 t156 t157) ∧ Aside0 (KeepBut w wc g none) ∧ Aside0 (Below w0.heap.size w0 wc))
  case first =>
   have H := HC7.out
   clear HC7
   by_cases c9 : t155 = 1
   ·
    rw [if_pos c9] at H
    have c9b0 : (t155 == 1) = true := beq_iff_eq.mpr c9
    have c9b1 : (t155 != 1) = false := bne_eq_false_iff_eq.mpr c9
    clear c9
    (first | rw [c9b0] | (simp only [i64_w, i32_w]; rw [c9b0]) | rw [c9b1] | (simp only [i64_w, i32_w]; rw [c9b1]) | skip)
    have H' := Aside0.mk H
    clear H
    go_wp2
    go_meet
    case rel => exact ⟨_, ((t155 == 1)), (by first | rfl | (simp; done) | (simp [*]; done)), H', ⟨by first | omega | exact Nat.le_refl _⟩, ⟨by exact iU0 HI0.out⟩, ⟨by exact hU HK.out⟩, ⟨by repeat (first | (with_reducible first | exact HB.out | apply below_alloc | apply pw_below_drewN | apply below_drew1 | refine below_set ?_ (IsS56.ge HI0.out)) | exact HB.out)⟩⟩
   ·
    rw [if_neg c9] at H
    have c9b0 : (t155 == 1) = false := beq_eq_false_iff_ne.mpr c9
    have c9b1 : (t155 != 1) = true := bne_iff_ne.mpr c9
    (first | rw [c9b0] | (simp only [i64_w, i32_w]; rw [c9b0]) | rw [c9b1] | (simp only [i64_w, i32_w]; rw [c9b1]) | skip)
    have H' := Aside0.mk H
    clear H
    go_wp2
    go_meet
    case rel => exact ⟨_, ((t155 == 2)), (by first | rfl | (simp; done) | (simp [*]; done)), H', ⟨by first | omega | exact Nat.le_refl _⟩, ⟨by exact iU0 HI0.out⟩, ⟨by exact hU HK.out⟩, ⟨by repeat (first | (with_reducible first | exact HB.out | apply below_alloc | apply pw_below_drewN | apply below_drew1 | refine below_set ?_ (IsS56.ge HI0.out)) | exact HB.out)⟩⟩
  case rest =>
   clear HC7
   try clear p2
   try clear c3
   try clear c3b0
   try clear c3b1
   try clear c4
   try clear c9
   try clear c9b0
   try clear c9b1
   obtain ⟨kq, x8_6, rfl, HA, HJ6, HI0, HK, HB⟩ := hcut
   cases kq with
   | zero => exact absurd HA.out (by simp [spec_l2DrawRight.j0])
   | succ kj6 =>
    have H := HA.out
    clear HA
    simp only [spec_l2DrawRight.j0] at H
    by_cases c10 : x8_6 = true
    ·
     subst c10
     have H1 : ((spec_l1Below.f s0_0 t156 t157 6).bind fun bt161 => (some ((([bt161.1] : List Int)), bt161.2.1, bt161.2.2))) = some (r1, r2, r3) := by rw [if_pos rfl] at H; exact H
     clear H
     have H := H1
     clear H1
     replace H := Option.bind_eq_some_iff.mp H
     obtain ⟨⟨t161, t162, t163⟩, A110, H⟩ := H
     replace H : (some ((([t161] : List Int)), t162, t163)) = some (r1, r2, r3) := H
     have A11 := Aside0.mk A110
     clear A110
     obtain ⟨y164, hy164⟩ : ∃ y_ : List Int, y_ = (([t161] : List Int)) := ⟨_, rfl⟩
     replace H : (some (y164, t162, t163)) = some (r1, r2, r3) := by first | (rw [hy164]; with_reducible exact H) | (have H2_ := (Option.bind_some _ _).symm.trans H; rw [hy164]; with_reducible exact H2_) | (have H2_ := (Option.bind_some _ _).symm.trans H; with_reducible exact H2_) | with_reducible exact H | (rw [hy164]; exact H) | exact H
     have Ny164 := Aside0.mk hy164
     clear hy164
     simp only [Option.some.injEq, Prod.mk.injEq] at H
     obtain ⟨rfl, rfl, rfl⟩ := H
     go_wp2_with (first | ((with_reducible refine gate_callee (f := 31) rfl ?_); refine goesL_ (some 12) rfl rfl Try.func31 (by kernel_rfl) rfl #[.pointer (some ⟨g, 0, none⟩), .int .i64 6] rfl lU ?_; (with_reducible refine (spec_l1Below.calls g s0_0 t156 t157 6 t161 t162 t163 w0 _ ?side1 ?side2 A11.out).mono ?_); (case side1 => exact iU0 HI0.out); (case side2 => repeat (first | (with_reducible first | exact HB.out | apply below_alloc | apply pw_below_drewN | apply below_drew1 | refine below_set ?_ (IsS56.ge HI0.out)) | exact HB.out)); rintro e w12 ⟨rfl, hi, hb, hk⟩; refine ⟨_, rfl, ?_⟩; replace HK := Aside0.mk (KeepBut.trans (hU HK.out) hk (.inl rfl)); replace HB := Aside0.mk (hb); replace HI0 := Aside0.mk (hi); (try clear hb); (try clear hb2); (try clear hk); (try clear hi)) | ((with_reducible refine gate_dst (N := 13) rfl ?_); refine Kd.R_lit (Kd.int .i64) _ 3 ?hg (N := 13) ?hd (xs := ([t161] : List Int)) (inner := [.int .i64 t161]) (ok := fun _ => True) (okp := fun _ => True) ?hr ?hp (fun _ hk => hk) trivial (Below.refl _ _) (Nat.le_refl _) (by simp) ?_; (case hd => rfl); (case hg => rfl); (case hr => first | (go_simp; done) | (go_simp; rfl)); (case hp => exact (Reps.one (show Kd.M (Kd.int .i64) _ _ _ t161 [.int .i64 t161] from rfl) (Reps.none _ _))); intro v165 w13 ho14 hb hg_ hnew_; clear hg_ hnew_; (first | rw [← Ny164.out] at ho14 | (simp only [Int.reduceToNat] at ho14; rw [← Ny164.out] at ho14)); have HO166 := Aside0.mk (Kd.R_lower ho14 (keep_size (w := w) (g := g) (row := none) (hU HK.out))); replace HK := Aside0.mk (KeepBut.trans (hU HK.out) (KeepBut.of_below hb g none) (.inl rfl)); replace HB := Aside0.mk (below_step (by repeat (first | (with_reducible first | exact HB.out | apply below_alloc | apply pw_below_drewN | apply below_drew1 | refine below_set ?_ (IsS56.ge HI0.out)) | exact HB.out)) hb); replace HI0 := Aside0.mk (IsS56.below (iU0 HI0.out) hb); clear hb ho14))
     go_ret
     exact ⟨_, by first | rfl | (simp [errW_none, errW_some] <;> rfl) | (simp [*, errW_none, errW_some] <;> rfl), by refine RU ?_; exact HO166.out, by exact iU0 HI0.out, by repeat (first | (with_reducible first | exact HB.out | apply below_alloc | apply pw_below_drewN | apply below_drew1 | refine below_set ?_ (IsS56.ge HI0.out)) | exact HB.out), by exact hU HK.out⟩
    ·
     replace c10 := Bool.eq_false_iff.mpr c10
     subst c10
     have H1 : (if t155 = 3 then ((spec_l1Below.f s0_0 t156 t157 4).bind fun bt167 => ((spec_l1Below.f s0_0 bt167.2.1 bt167.2.2 3).bind fun bt170 => (some ((([bt167.1, wrap64 (1 + bt170.1)] : List Int)), bt170.2.1, bt170.2.2)))) else ((spec_l1Below.f s0_0 t156 t157 3).bind fun bt176 => ((spec_l1Below.f s0_0 bt176.2.1 bt176.2.2 2).bind fun bt179 => ((spec_l1Below.f s0_0 bt179.2.1 bt179.2.2 4).bind fun bt182 => (some ((([wrap64 (1 + bt176.1), wrap64 (1 + bt179.1), bt182.1] : List Int)), bt182.2.1, bt182.2.2)))))) = some (r1, r2, r3) := by rw [if_neg (show ¬ (false = true) by decide)] at H; exact H
     clear H
     have H := H1
     clear H1
     by_cases c15 : t155 = 3
     ·
      rw [if_pos c15] at H
      have c15b0 : (t155 == 3) = true := beq_iff_eq.mpr c15
      have c15b1 : (t155 != 3) = false := bne_eq_false_iff_eq.mpr c15
      clear c15
      replace H := Option.bind_eq_some_iff.mp H
      obtain ⟨⟨t167, t168, t169⟩, A160, H⟩ := H
      replace H : ((spec_l1Below.f s0_0 t168 t169 3).bind fun bt170 => (some ((([t167, wrap64 (1 + bt170.1)] : List Int)), bt170.2.1, bt170.2.2))) = some (r1, r2, r3) := H
      have A16 := Aside0.mk A160
      clear A160
      replace H := Option.bind_eq_some_iff.mp H
      obtain ⟨⟨t170, t171, t172⟩, A170, H⟩ := H
      replace H : (some ((([t167, wrap64 (1 + t170)] : List Int)), t171, t172)) = some (r1, r2, r3) := H
      have A17 := Aside0.mk A170
      clear A170
      obtain ⟨y173, hy173⟩ : ∃ y_ : List Int, y_ = (([t167, wrap64 (1 + t170)] : List Int)) := ⟨_, rfl⟩
      replace H : (some (y173, t171, t172)) = some (r1, r2, r3) := by first | (rw [hy173]; with_reducible exact H) | (have H2_ := (Option.bind_some _ _).symm.trans H; rw [hy173]; with_reducible exact H2_) | (have H2_ := (Option.bind_some _ _).symm.trans H; with_reducible exact H2_) | with_reducible exact H | (rw [hy173]; exact H) | exact H
      have Ny173 := Aside0.mk hy173
      clear hy173
      simp only [Option.some.injEq, Prod.mk.injEq] at H
      obtain ⟨rfl, rfl, rfl⟩ := H
      go_wp2_with (first | ((with_reducible refine gate_callee (f := 31) rfl ?_); refine goesL_ (some 17) rfl rfl Try.func31 (by kernel_rfl) rfl #[.pointer (some ⟨g, 0, none⟩), .int .i64 4] rfl lU ?_; (with_reducible refine (spec_l1Below.calls g s0_0 t156 t157 4 t167 t168 t169 w0 _ ?side1 ?side2 A16.out).mono ?_); (case side1 => exact iU0 HI0.out); (case side2 => repeat (first | (with_reducible first | exact HB.out | apply below_alloc | apply pw_below_drewN | apply below_drew1 | refine below_set ?_ (IsS56.ge HI0.out)) | exact HB.out)); rintro e w18 ⟨rfl, hi, hb, hk⟩; refine ⟨_, rfl, ?_⟩; replace HK := Aside0.mk (KeepBut.trans (hU HK.out) hk (.inl rfl)); replace HB := Aside0.mk (hb); replace HI0 := Aside0.mk (hi); (try clear hb); (try clear hb2); (try clear hk); (try clear hi)) | ((with_reducible refine gate_callee (f := 31) rfl ?_); refine goesL_ (some 19) rfl rfl Try.func31 (by kernel_rfl) rfl #[.pointer (some ⟨g, 0, none⟩), .int .i64 3] rfl lU ?_; (with_reducible refine (spec_l1Below.calls g s0_0 t168 t169 3 t170 t171 t172 w0 _ ?side1 ?side2 A17.out).mono ?_); (case side1 => exact iU0 HI0.out); (case side2 => repeat (first | (with_reducible first | exact HB.out | apply below_alloc | apply pw_below_drewN | apply below_drew1 | refine below_set ?_ (IsS56.ge HI0.out)) | exact HB.out)); rintro e w19 ⟨rfl, hi, hb, hk⟩; refine ⟨_, rfl, ?_⟩; replace HK := Aside0.mk (KeepBut.trans (hU HK.out) hk (.inl rfl)); replace HB := Aside0.mk (hb); replace HI0 := Aside0.mk (hi); (try clear hb); (try clear hb2); (try clear hk); (try clear hi)) | ((with_reducible refine gate_dst (N := 21) rfl ?_); refine Kd.R_lit (Kd.int .i64) _ 3 ?hg (N := 21) ?hd (xs := ([t167, wrap64 (1 + t170)] : List Int)) (inner := [.int .i64 t167, .int .i64 (wrap64 (1 + t170))]) (ok := fun _ => True) (okp := fun _ => True) ?hr ?hp (fun _ hk => hk) trivial (Below.refl _ _) (Nat.le_refl _) (by simp) ?_; (case hd => rfl); (case hg => rfl); (case hr => first | (go_simp; done) | (go_simp; rfl)); (case hp => exact (Reps.one (show Kd.M (Kd.int .i64) _ _ _ t167 [.int .i64 t167] from rfl) (Reps.one (show Kd.M (Kd.int .i64) _ _ _ (wrap64 (1 + t170)) [.int .i64 (wrap64 (1 + t170))] from rfl) (Reps.none _ _)))); intro v174 w20 ho21 hb hg_ hnew_; clear hg_ hnew_; (first | rw [← Ny173.out] at ho21 | (simp only [Int.reduceToNat] at ho21; rw [← Ny173.out] at ho21)); have HO175 := Aside0.mk (Kd.R_lower ho21 (keep_size (w := w) (g := g) (row := none) (hU HK.out))); replace HK := Aside0.mk (KeepBut.trans (hU HK.out) (KeepBut.of_below hb g none) (.inl rfl)); replace HB := Aside0.mk (below_step (by repeat (first | (with_reducible first | exact HB.out | apply below_alloc | apply pw_below_drewN | apply below_drew1 | refine below_set ?_ (IsS56.ge HI0.out)) | exact HB.out)) hb); replace HI0 := Aside0.mk (IsS56.below (iU0 HI0.out) hb); clear hb ho21))
      go_ret
      exact ⟨_, by first | rfl | (simp [errW_none, errW_some] <;> rfl) | (simp [*, errW_none, errW_some] <;> rfl), by refine RU ?_; exact HO175.out, by exact iU0 HI0.out, by repeat (first | (with_reducible first | exact HB.out | apply below_alloc | apply pw_below_drewN | apply below_drew1 | refine below_set ?_ (IsS56.ge HI0.out)) | exact HB.out), by exact hU HK.out⟩
     ·
      rw [if_neg c15] at H
      have c15b0 : (t155 == 3) = false := beq_eq_false_iff_ne.mpr c15
      have c15b1 : (t155 != 3) = true := bne_iff_ne.mpr c15
      replace H := Option.bind_eq_some_iff.mp H
      obtain ⟨⟨t176, t177, t178⟩, A220, H⟩ := H
      replace H : ((spec_l1Below.f s0_0 t177 t178 2).bind fun bt179 => ((spec_l1Below.f s0_0 bt179.2.1 bt179.2.2 4).bind fun bt182 => (some ((([wrap64 (1 + t176), wrap64 (1 + bt179.1), bt182.1] : List Int)), bt182.2.1, bt182.2.2)))) = some (r1, r2, r3) := H
      have A22 := Aside0.mk A220
      clear A220
      replace H := Option.bind_eq_some_iff.mp H
      obtain ⟨⟨t179, t180, t181⟩, A230, H⟩ := H
      replace H : ((spec_l1Below.f s0_0 t180 t181 4).bind fun bt182 => (some ((([wrap64 (1 + t176), wrap64 (1 + t179), bt182.1] : List Int)), bt182.2.1, bt182.2.2))) = some (r1, r2, r3) := H
      have A23 := Aside0.mk A230
      clear A230
      replace H := Option.bind_eq_some_iff.mp H
      obtain ⟨⟨t182, t183, t184⟩, A240, H⟩ := H
      replace H : (some ((([wrap64 (1 + t176), wrap64 (1 + t179), t182] : List Int)), t183, t184)) = some (r1, r2, r3) := H
      have A24 := Aside0.mk A240
      clear A240
      obtain ⟨y185, hy185⟩ : ∃ y_ : List Int, y_ = (([wrap64 (1 + t176), wrap64 (1 + t179), t182] : List Int)) := ⟨_, rfl⟩
      replace H : (some (y185, t183, t184)) = some (r1, r2, r3) := by first | (rw [hy185]; with_reducible exact H) | (have H2_ := (Option.bind_some _ _).symm.trans H; rw [hy185]; with_reducible exact H2_) | (have H2_ := (Option.bind_some _ _).symm.trans H; with_reducible exact H2_) | with_reducible exact H | (rw [hy185]; exact H) | exact H
      have Ny185 := Aside0.mk hy185
      clear hy185
      simp only [Option.some.injEq, Prod.mk.injEq] at H
      obtain ⟨rfl, rfl, rfl⟩ := H
      go_wp2_with (first | ((with_reducible refine gate_callee (f := 31) rfl ?_); refine goesL_ (some 23) rfl rfl Try.func31 (by kernel_rfl) rfl #[.pointer (some ⟨g, 0, none⟩), .int .i64 3] rfl lU ?_; (with_reducible refine (spec_l1Below.calls g s0_0 t156 t157 3 t176 t177 t178 w0 _ ?side1 ?side2 A22.out).mono ?_); (case side1 => exact iU0 HI0.out); (case side2 => repeat (first | (with_reducible first | exact HB.out | apply below_alloc | apply pw_below_drewN | apply below_drew1 | refine below_set ?_ (IsS56.ge HI0.out)) | exact HB.out)); rintro e w25 ⟨rfl, hi, hb, hk⟩; refine ⟨_, rfl, ?_⟩; replace HK := Aside0.mk (KeepBut.trans (hU HK.out) hk (.inl rfl)); replace HB := Aside0.mk (hb); replace HI0 := Aside0.mk (hi); (try clear hb); (try clear hb2); (try clear hk); (try clear hi)) | ((with_reducible refine gate_callee (f := 31) rfl ?_); refine goesL_ (some 26) rfl rfl Try.func31 (by kernel_rfl) rfl #[.pointer (some ⟨g, 0, none⟩), .int .i64 2] rfl lU ?_; (with_reducible refine (spec_l1Below.calls g s0_0 t177 t178 2 t179 t180 t181 w0 _ ?side1 ?side2 A23.out).mono ?_); (case side1 => exact iU0 HI0.out); (case side2 => repeat (first | (with_reducible first | exact HB.out | apply below_alloc | apply pw_below_drewN | apply below_drew1 | refine below_set ?_ (IsS56.ge HI0.out)) | exact HB.out)); rintro e w26 ⟨rfl, hi, hb, hk⟩; refine ⟨_, rfl, ?_⟩; replace HK := Aside0.mk (KeepBut.trans (hU HK.out) hk (.inl rfl)); replace HB := Aside0.mk (hb); replace HI0 := Aside0.mk (hi); (try clear hb); (try clear hb2); (try clear hk); (try clear hi)) | ((with_reducible refine gate_callee (f := 31) rfl ?_); refine goesL_ (some 29) rfl rfl Try.func31 (by kernel_rfl) rfl #[.pointer (some ⟨g, 0, none⟩), .int .i64 4] rfl lU ?_; (with_reducible refine (spec_l1Below.calls g s0_0 t180 t181 4 t182 t183 t184 w0 _ ?side1 ?side2 A24.out).mono ?_); (case side1 => exact iU0 HI0.out); (case side2 => repeat (first | (with_reducible first | exact HB.out | apply below_alloc | apply pw_below_drewN | apply below_drew1 | refine below_set ?_ (IsS56.ge HI0.out)) | exact HB.out)); rintro e w27 ⟨rfl, hi, hb, hk⟩; refine ⟨_, rfl, ?_⟩; replace HK := Aside0.mk (KeepBut.trans (hU HK.out) hk (.inl rfl)); replace HB := Aside0.mk (hb); replace HI0 := Aside0.mk (hi); (try clear hb); (try clear hb2); (try clear hk); (try clear hi)) | ((with_reducible refine gate_dst (N := 30) rfl ?_); refine Kd.R_lit (Kd.int .i64) _ 3 ?hg (N := 30) ?hd (xs := ([wrap64 (1 + t176), wrap64 (1 + t179), t182] : List Int)) (inner := [.int .i64 (wrap64 (1 + t176)), .int .i64 (wrap64 (1 + t179)), .int .i64 t182]) (ok := fun _ => True) (okp := fun _ => True) ?hr ?hp (fun _ hk => hk) trivial (Below.refl _ _) (Nat.le_refl _) (by simp) ?_; (case hd => rfl); (case hg => rfl); (case hr => first | (go_simp; done) | (go_simp; rfl)); (case hp => exact (Reps.one (show Kd.M (Kd.int .i64) _ _ _ (wrap64 (1 + t176)) [.int .i64 (wrap64 (1 + t176))] from rfl) (Reps.one (show Kd.M (Kd.int .i64) _ _ _ (wrap64 (1 + t179)) [.int .i64 (wrap64 (1 + t179))] from rfl) (Reps.one (show Kd.M (Kd.int .i64) _ _ _ t182 [.int .i64 t182] from rfl) (Reps.none _ _))))); intro v186 w28 ho29 hb hg_ hnew_; clear hg_ hnew_; (first | rw [← Ny185.out] at ho29 | (simp only [Int.reduceToNat] at ho29; rw [← Ny185.out] at ho29)); have HO187 := Aside0.mk (Kd.R_lower ho29 (keep_size (w := w) (g := g) (row := none) (hU HK.out))); replace HK := Aside0.mk (KeepBut.trans (hU HK.out) (KeepBut.of_below hb g none) (.inl rfl)); replace HB := Aside0.mk (below_step (by repeat (first | (with_reducible first | exact HB.out | apply below_alloc | apply pw_below_drewN | apply below_drew1 | refine below_set ?_ (IsS56.ge HI0.out)) | exact HB.out)) hb); replace HI0 := Aside0.mk (IsS56.below (iU0 HI0.out) hb); clear hb ho29))
      go_ret
      exact ⟨_, by first | rfl | (simp [errW_none, errW_some] <;> rfl) | (simp [*, errW_none, errW_some] <;> rfl), by refine RU ?_; exact HO187.out, by exact iU0 HI0.out, by repeat (first | (with_reducible first | exact HB.out | apply below_alloc | apply pw_below_drewN | apply below_drew1 | refine below_set ?_ (IsS56.ge HI0.out)) | exact HB.out), by exact hU HK.out⟩

/-! ### spec_l3DrawRight: function 30 -/
def spec_l3DrawRight.f (k : Nat) (s0_0 : List Int) (s0_1 : Int) (s0_2 : Int) : Option (List Int × List Int × Int × Int) := (spec_l2DrawRight.f k s0_0 s0_1 s0_2).bind fun bt189 => ((spec_l3Fill.f k s0_0 bt189.2.1 bt189.2.2 bt189.1).bind fun bt194 => (some (bt194.1, bt194.2.1, bt194.2.2.1, bt194.2.2.2)))
set_option maxHeartbeats 8000000 in
set_option maxRecDepth 100000 in
theorem spec_l3DrawRight.calls (k : Nat) (g : Nat) (s0_0 : List Int) (s0_1 : Int) (s0_2 : Int) (r1 : List Int) (r2 : List Int) (r3 : Int) (r4 : Int) (w0 w : World) (hI : IsS56 w0 w g s0_0 s0_1 s0_2) (hB : Below w0.heap.size w0 w) (h : spec_l3DrawRight.f k s0_0 s0_1 s0_2 = some (r1, r2, r3, r4)) :
  Calls Try.prog 30 #[.pointer (some ⟨g, 0, none⟩)] w fun e w' => ∃ v0_ v1_ : Value, e = .returned (.agg #[v0_, v1_]) ∧ Kd.R (Kd.int .i64) 3 w' w.heap.size (fun k_ => some k_ ≠ (v1_ : Value).ownBlock) v0_ r1 ∧ Kd.R (Kd.int .i64) 3 w' w.heap.size (fun k_ => some k_ ≠ (v0_ : Value).ownBlock) v1_ r2 ∧ IsS56 w0 w' g s0_0 r3 r4 ∧ Below w0.heap.size w0 w' ∧ KeepBut w w' g none := by
 have hu26 := Try.underlying26
 have HI0 := Aside0.mk hI
 have HK := Aside0.mk (KeepBut.refl w g none)
 have HL := Aside0.mk hB.size
 clear hI
 have HW0 := Aside0.mk hB.size
 have HB := Aside0.mk hB
 clear hB
 have H : ((spec_l2DrawRight.f k s0_0 s0_1 s0_2).bind fun bt189 => ((spec_l3Fill.f k s0_0 bt189.2.1 bt189.2.2 bt189.1).bind fun bt194 => (some (bt194.1, bt194.2.1, bt194.2.2.1, bt194.2.2.2)))) = some (r1, r2, r3, r4) := h
 clear h
 replace H := Option.bind_eq_some_iff.mp H
 obtain ⟨⟨t189, t192, t193⟩, A20, H⟩ := H
 replace H : ((spec_l3Fill.f k s0_0 t192 t193 t189).bind fun bt194 => (some (bt194.1, bt194.2.1, bt194.2.2.1, bt194.2.2.2))) = some (r1, r2, r3, r4) := H
 have A2 := Aside0.mk A20
 clear A20
 replace H := Option.bind_eq_some_iff.mp H
 obtain ⟨⟨t194, t197, t200, t201⟩, A30, H⟩ := H
 replace H : (some (t194, t197, t200, t201)) = some (r1, r2, r3, r4) := H
 have A3 := Aside0.mk A30
 clear A30
 simp only [Option.some.injEq, Prod.mk.injEq] at H
 obtain ⟨rfl, rfl, rfl, rfl⟩ := H
 go_enter Try.func30, Try.ntmps30
 go_wp2_with (first | ((with_reducible refine gate_dst (N := 2) rfl ?_); refine box_event ?hg (N := 2) ?hd (cs := #[.slice none 0 0, .slice none 0 0]) (t := 26) ?hr ?_; (case hd => rfl); (case hg => rfl); (case hr => first | (go_simp; done) | (go_simp; rfl)); intro gb188 hg w4 hbox hb; replace HB := Aside0.mk (below_step (by repeat (first | (with_reducible first | exact HB.out | apply below_alloc | apply pw_below_drewN | apply below_drew1 | refine below_set ?_ (IsS56.ge HI0.out)) | exact HB.out)) hb); have BK188 := Aside0.mk (hbox); have GW188 := Aside0.mk ((by rw [hg]; exact (keep_size (w := w) (g := g) (row := none) (hU HK.out)) : w.heap.size ≤ gb188)); have GE188 := Aside0.mk ((Nat.le_trans HW0.out (by rw [hg]; exact (keep_size (w := w) (g := g) (row := none) (hU HK.out)) : w.heap.size ≤ gb188) : w0.heap.size ≤ gb188)); replace HK := Aside0.mk (KeepBut.trans (hU HK.out) (KeepBut.of_below hb g none) (.inl rfl)); have NB0_188 := Aside0.mk ((by rw [hg]; exact Nat.ne_of_lt (IsS56.lt (show IsS56 w0 _ g s0_0 s0_1 s0_2 from by exact iU0 HI0.out)) : g ≠ gb188)); have NB188_0 := Aside0.mk ((by rw [hg]; exact Nat.ne_of_gt (IsS56.lt (show IsS56 w0 _ g s0_0 s0_1 s0_2 from by exact iU0 HI0.out)) : gb188 ≠ g)); replace HI0 := Aside0.mk (IsS56.below (iU0 HI0.out) hb); clear hb hbox hg) | ((with_reducible refine gate_callee (f := 42) rfl ?_); refine goesL_ (some 5) rfl rfl Try.func42 (by kernel_rfl) rfl #[.pointer (some ⟨g, 0, none⟩)] rfl lU ?_; (with_reducible refine (spec_l2DrawRight.calls k g s0_0 s0_1 s0_2 t189 t192 t193 w0 _ ?side1 ?side2 A2.out).mono ?_); (case side1 => repeat (first | (with_reducible first | exact HI0.out | apply IsS56.alloc | apply IsS56.drewN | apply IsS56.drew | apply IsS56.set_1 | apply IsS56.set_2 | refine IsS56.far ?_ NB0_188.out _) | exact HI0.out)); (case side2 => repeat (first | (with_reducible first | exact HB.out | apply below_alloc | apply pw_below_drewN | apply below_drew1 | refine below_set ?_ (IsS56.ge HI0.out) | refine below_set ?_ GE188.out) | exact HB.out)); rintro e w5 ⟨v190, rfl, ho0, hi, hb, hk⟩; refine ⟨_, rfl, ?_⟩; replace BK188 := Aside0.mk (KeepBut.blk hk (g' := gb188) (o := .cells #[.slice none 0 0, .slice none 0 0] 26 (0, 0)) (kU BK188.out) NB188_0.out (by simp)); have HO191 := Aside0.mk (Kd.R_lower ho0 (keep_size (w := w) (g := g) (row := none) (by repeat (first | (with_reducible first | exact HK.out | apply KeepBut.set_ | apply keep_drewN | apply keep_drew | apply keep_alloc | refine keep_far ?_ GW188.out _) | exact HK.out)))); replace HK := Aside0.mk (KeepBut.trans (by repeat (first | (with_reducible first | exact HK.out | apply KeepBut.set_ | apply keep_drewN | apply keep_drew | apply keep_alloc | refine keep_far ?_ GW188.out _) | exact HK.out)) hk (.inl rfl)); replace HB := Aside0.mk (hb); replace HI0 := Aside0.mk (hi); (try clear hb); (try clear hb2); (try clear hk); (try clear hi); (try clear ho0); obtain ⟨Ao6, co6, eo6⟩ := Kd.R_slice HO191.out; subst eo6) | ((with_reducible refine gate_callee (f := 41) rfl ?_); refine goesL_ (some 6) rfl rfl Try.func41 (by kernel_rfl) rfl #[.pointer (some ⟨g, 0, none⟩), .slice Ao6 t189.length co6] rfl lU ?_; (with_reducible refine (spec_l3Fill.calls k g s0_0 t192 t193 _ _ t189 t194 t197 t200 t201 w0 _ ?side1 ?side2 ?side3 ?side4 ?side5 A3.out).mono ?_); (case side1 => repeat (first | (with_reducible first | exact HI0.out | apply IsS56.alloc | apply IsS56.drewN | apply IsS56.drew | apply IsS56.set_1 | apply IsS56.set_2 | refine IsS56.far ?_ NB0_188.out _) | exact HI0.out)); (case side2 => repeat (first | (with_reducible first | exact HB.out | apply below_alloc | apply pw_below_drewN | apply below_drew1 | refine below_set ?_ (IsS56.ge HI0.out) | refine below_set ?_ GE188.out) | exact HB.out)); (case side3 => exact cU (Kd.R_reads' HO191.out).2.2); (case side4 => exact (Kd.R_reads' HO191.out).2.1); (case side5 => exact far_slice (IsS56.own_ne HI0.out HO191.out (by decide))); rintro e w7 ⟨v195, v198, rfl, ho0, ho1, hi, hb, hk⟩; refine ⟨_, rfl, ?_⟩; replace BK188 := Aside0.mk (KeepBut.blk hk (g' := gb188) (o := .cells #[.slice none 0 0, .slice none 0 0] 26 (0, 0)) (kU BK188.out) NB188_0.out (by simp)); have HO196 := Aside0.mk (Kd.R_lower (Kd.R_new' ho0 (Kd.R_lt (RU HO191.out))) (keep_size (w := w) (g := g) (row := none) (by repeat (first | (with_reducible first | exact HK.out | apply KeepBut.set_ | apply keep_drewN | apply keep_drew | apply keep_alloc | refine keep_far ?_ GW188.out _) | exact HK.out)))); have HO199 := Aside0.mk (Kd.R_lower (Kd.R_new' ho1 (Kd.R_lt (RU HO191.out))) (keep_size (w := w) (g := g) (row := none) (by repeat (first | (with_reducible first | exact HK.out | apply KeepBut.set_ | apply keep_drewN | apply keep_drew | apply keep_alloc | refine keep_far ?_ GW188.out _) | exact HK.out)))); replace HO191 := Aside0.mk (Kd.R_mono (Kd.R_told (Kd.R_told (Kd.R_oldK (IsS56.apart (show IsS56 w0 _ g s0_0 t192 t193 from by repeat (first | (with_reducible first | exact HI0.out | apply IsS56.alloc | apply IsS56.drewN | apply IsS56.drew | apply IsS56.set_1 | apply IsS56.set_2 | refine IsS56.far ?_ NB0_188.out _) | exact HI0.out)) (RU HO191.out) (by decide)) hk) (Kd.R_base ho0)) (Kd.R_base ho1)) (fun _ h_ => h_.1)); replace HK := Aside0.mk (KeepBut.trans (by repeat (first | (with_reducible first | exact HK.out | apply KeepBut.set_ | apply keep_drewN | apply keep_drew | apply keep_alloc | refine keep_far ?_ GW188.out _) | exact HK.out)) hk (.inl rfl)); replace HB := Aside0.mk (hb); replace HI0 := Aside0.mk (hi); (try clear hb); (try clear hb2); (try clear hk); (try clear hi); (try clear ho0); (try clear ho1); obtain ⟨Ao8, co8, eo8⟩ := Kd.R_slice HO196.out; subst eo8; have hnb9 := NB188_0.out; have hnc9 := NB0_188.out; have hcz10_0 : w7.cell? ⟨gb188, 0, none⟩ = some (.slice none 0 0) := (blk_cell BK188.out 0).trans rfl; have hcz10_1 : w7.cell? ⟨gb188, 1, none⟩ = some (.slice none 0 0) := (blk_cell BK188.out 1).trans rfl; have hfz10_0 := blk_frozen BK188.out 0; have hfz10_1 := blk_frozen BK188.out 1; obtain ⟨Ao11, co11, eo11⟩ := Kd.R_slice HO199.out; subst eo11))
 refine bodyPost_ret (results_cell_row rfl _ _ gb188 26 #[.slice Ao8 t194.length co8, .slice Ao11 t197.length co11] (0, 0) _ rfl (by refine kU ?_; refine blk_put (cs := #[.slice Ao8 t194.length co8, .slice none 0 0]) ?_ 1 _ rfl; refine kU ?_; refine blk_put (cs := #[.slice none 0 0, .slice none 0 0]) ?_ 0 _ rfl; refine kU ?_; exact BK188.out) Try.underlying26 rfl (by kernel_rfl)) rfl ?_
 exact ⟨_, _, by first | rfl | (simp [errW_none, errW_some] <;> rfl) | (simp [*, errW_none, errW_some] <;> rfl), by refine RU ?_; exact Kd.R_mono (Kd.R_far (p := ⟨gb188, 1, none⟩) (Kd.R_far (p := ⟨gb188, 0, none⟩) (Kd.R_types HO196.out BK188.out (by decide)) (fun _ hk => hk.2) (.slice Ao8 t194.length co8)) (fun _ hk => hk.2) (.slice Ao11 t197.length co11)) (fun _ hk => hk.1.1), by refine RU ?_; exact Kd.R_mono (Kd.R_far (p := ⟨gb188, 1, none⟩) (Kd.R_far (p := ⟨gb188, 0, none⟩) (Kd.R_types HO199.out BK188.out (by decide)) (fun _ hk => hk.2) (.slice Ao8 t194.length co8)) (fun _ hk => hk.2) (.slice Ao11 t197.length co11)) (fun _ hk => hk.1.1), by repeat (first | (with_reducible first | exact HI0.out | apply IsS56.alloc | apply IsS56.drewN | apply IsS56.drew | apply IsS56.set_1 | apply IsS56.set_2 | refine IsS56.far ?_ NB0_188.out _) | exact HI0.out), by repeat (first | (with_reducible first | exact HB.out | apply below_alloc | apply pw_below_drewN | apply below_drew1 | refine below_set ?_ (IsS56.ge HI0.out) | refine below_set ?_ GE188.out) | exact HB.out), by repeat (first | (with_reducible first | exact HK.out | apply KeepBut.set_ | apply keep_drewN | apply keep_drew | apply keep_alloc | refine keep_far ?_ GW188.out _) | exact HK.out)⟩

/-! ### spec_l2Draw: function 32 -/
def spec_l2Draw.f (k : Nat) (s0_0 : List Int) (s0_1 : Int) (s0_2 : Int) : Option (List Int × Int × Int) := (spec_l2DrawRight.f k s0_0 s0_1 s0_2).bind fun bt202 => ((spec_l1Below.f s0_0 bt202.2.1 bt202.2.2 20).bind fun bt207 => (if bt207.1 = 0 then ((spec_l1PickInt.f s0_0 bt207.2.1 bt207.2.2 (([(-1), 0, 300, 301] : List Int))).bind fun bt213 => (if bt202.1.length < 17592186044416 then (some ((bt202.1 ++ [bt213.1]), bt213.2.1, bt213.2.2)) else (none))) else (if bt207.1 = 1 then (some ((([1, 1, 1, 1] : List Int)), bt207.2.1, bt207.2.2)) else (if bt207.1 = 2 then ((spec_l1PickInt.f s0_0 bt207.2.1 bt207.2.2 (([17, 20, 15, 300] : List Int))).bind fun bt225 => ((spec_l1PickInt.f s0_0 bt225.2.1 bt225.2.2 (([15, 20, 16, 0] : List Int))).bind fun bt231 => (some ((([bt225.1, bt231.1] : List Int)), bt231.2.1, bt231.2.2)))) else (some (bt202.1, bt207.2.1, bt207.2.2))))))
set_option maxHeartbeats 8000000 in
set_option maxRecDepth 100000 in
theorem spec_l2Draw.calls (k : Nat) (g : Nat) (s0_0 : List Int) (s0_1 : Int) (s0_2 : Int) (r1 : List Int) (r2 : Int) (r3 : Int) (w0 w : World) (hI : IsS56 w0 w g s0_0 s0_1 s0_2) (hB : Below w0.heap.size w0 w) (h : spec_l2Draw.f k s0_0 s0_1 s0_2 = some (r1, r2, r3)) :
  Calls Try.prog 32 #[.pointer (some ⟨g, 0, none⟩)] w fun e w' => ∃ v0_ : Value, e = .returned (v0_) ∧ Kd.R (Kd.int .i64) 3 w' w.heap.size (fun _ => True) v0_ r1 ∧ IsS56 w0 w' g s0_0 r2 r3 ∧ Below w0.heap.size w0 w' ∧ KeepBut w w' g none := by
 have HI0 := Aside0.mk hI
 have HK := Aside0.mk (KeepBut.refl w g none)
 have HL := Aside0.mk hB.size
 clear hI
 have HW0 := Aside0.mk hB.size
 have HB := Aside0.mk hB
 clear hB
 have H : ((spec_l2DrawRight.f k s0_0 s0_1 s0_2).bind fun bt202 => ((spec_l1Below.f s0_0 bt202.2.1 bt202.2.2 20).bind fun bt207 => (if bt207.1 = 0 then ((spec_l1PickInt.f s0_0 bt207.2.1 bt207.2.2 (([(-1), 0, 300, 301] : List Int))).bind fun bt213 => (if bt202.1.length < 17592186044416 then (some ((bt202.1 ++ [bt213.1]), bt213.2.1, bt213.2.2)) else (none))) else (if bt207.1 = 1 then (some ((([1, 1, 1, 1] : List Int)), bt207.2.1, bt207.2.2)) else (if bt207.1 = 2 then ((spec_l1PickInt.f s0_0 bt207.2.1 bt207.2.2 (([17, 20, 15, 300] : List Int))).bind fun bt225 => ((spec_l1PickInt.f s0_0 bt225.2.1 bt225.2.2 (([15, 20, 16, 0] : List Int))).bind fun bt231 => (some ((([bt225.1, bt231.1] : List Int)), bt231.2.1, bt231.2.2)))) else (some (bt202.1, bt207.2.1, bt207.2.2))))))) = some (r1, r2, r3) := h
 clear h
 replace H := Option.bind_eq_some_iff.mp H
 obtain ⟨⟨t202, t205, t206⟩, A20, H⟩ := H
 replace H : ((spec_l1Below.f s0_0 t205 t206 20).bind fun bt207 => (if bt207.1 = 0 then ((spec_l1PickInt.f s0_0 bt207.2.1 bt207.2.2 (([(-1), 0, 300, 301] : List Int))).bind fun bt213 => (if t202.length < 17592186044416 then (some ((t202 ++ [bt213.1]), bt213.2.1, bt213.2.2)) else (none))) else (if bt207.1 = 1 then (some ((([1, 1, 1, 1] : List Int)), bt207.2.1, bt207.2.2)) else (if bt207.1 = 2 then ((spec_l1PickInt.f s0_0 bt207.2.1 bt207.2.2 (([17, 20, 15, 300] : List Int))).bind fun bt225 => ((spec_l1PickInt.f s0_0 bt225.2.1 bt225.2.2 (([15, 20, 16, 0] : List Int))).bind fun bt231 => (some ((([bt225.1, bt231.1] : List Int)), bt231.2.1, bt231.2.2)))) else (some (t202, bt207.2.1, bt207.2.2)))))) = some (r1, r2, r3) := H
 have A2 := Aside0.mk A20
 clear A20
 replace H := Option.bind_eq_some_iff.mp H
 obtain ⟨⟨t207, t208, t209⟩, A30, H⟩ := H
 replace H : (if t207 = 0 then ((spec_l1PickInt.f s0_0 t208 t209 (([(-1), 0, 300, 301] : List Int))).bind fun bt213 => (if t202.length < 17592186044416 then (some ((t202 ++ [bt213.1]), bt213.2.1, bt213.2.2)) else (none))) else (if t207 = 1 then (some ((([1, 1, 1, 1] : List Int)), t208, t209)) else (if t207 = 2 then ((spec_l1PickInt.f s0_0 t208 t209 (([17, 20, 15, 300] : List Int))).bind fun bt225 => ((spec_l1PickInt.f s0_0 bt225.2.1 bt225.2.2 (([15, 20, 16, 0] : List Int))).bind fun bt231 => (some ((([bt225.1, bt231.1] : List Int)), bt231.2.1, bt231.2.2)))) else (some (t202, t208, t209))))) = some (r1, r2, r3) := H
 have A3 := Aside0.mk A30
 clear A30
 by_cases c4 : t207 = 0
 ·
  rw [if_pos c4] at H
  have c4b0 : (t207 == 0) = true := beq_iff_eq.mpr c4
  have c4b1 : (t207 != 0) = false := bne_eq_false_iff_eq.mpr c4
  clear c4
  obtain ⟨y210, hy210⟩ : ∃ y_ : List Int, y_ = (([(-1), 0, 300, 301] : List Int)) := ⟨_, rfl⟩
  replace H : ((spec_l1PickInt.f s0_0 t208 t209 y210).bind fun bt213 => (if t202.length < 17592186044416 then (some ((t202 ++ [bt213.1]), bt213.2.1, bt213.2.2)) else (none))) = some (r1, r2, r3) := by first | (rw [hy210]; with_reducible exact H) | (have H2_ := (Option.bind_some _ _).symm.trans H; rw [hy210]; with_reducible exact H2_) | (have H2_ := (Option.bind_some _ _).symm.trans H; with_reducible exact H2_) | with_reducible exact H | (rw [hy210]; exact H) | exact H
  have Ny210 := Aside0.mk hy210
  clear hy210
  replace H := Option.bind_eq_some_iff.mp H
  obtain ⟨⟨t213, t214, t215⟩, A50, H⟩ := H
  replace H : (if t202.length < 17592186044416 then (some ((t202 ++ [t213]), t214, t215)) else (none)) = some (r1, r2, r3) := H
  have A5 := Aside0.mk A50
  clear A50
  by_cases c6 : t202.length < 17592186044416
  ·
   rw [if_pos c6] at H
   have LMc6 := Aside0.mk c6
   clear c6
   obtain ⟨y216, hy216⟩ : ∃ y_ : List Int, y_ = (t202 ++ [t213]) := ⟨_, rfl⟩
   replace H : (some (y216, t214, t215)) = some (r1, r2, r3) := by first | (rw [hy216]; with_reducible exact H) | (have H2_ := (Option.bind_some _ _).symm.trans H; rw [hy216]; with_reducible exact H2_) | (have H2_ := (Option.bind_some _ _).symm.trans H; with_reducible exact H2_) | with_reducible exact H | (rw [hy216]; exact H) | exact H
   have Ny216 := Aside0.mk hy216
   clear hy216
   simp only [Option.some.injEq, Prod.mk.injEq] at H
   obtain ⟨rfl, rfl, rfl⟩ := H
   go_enter Try.func32, Try.ntmps32
   go_wp2_with (first | ((with_reducible refine gate_callee (f := 42) rfl ?_); refine goesL_ (some 5) rfl rfl Try.func42 (by kernel_rfl) rfl #[.pointer (some ⟨g, 0, none⟩)] rfl lU ?_; (with_reducible refine (spec_l2DrawRight.calls k g s0_0 s0_1 s0_2 t202 t205 t206 w0 _ ?side1 ?side2 A2.out).mono ?_); (case side1 => exact iU0 HI0.out); (case side2 => repeat (first | (with_reducible first | exact HB.out | apply below_alloc | apply pw_below_drewN | apply below_drew1 | refine below_set ?_ (IsS56.ge HI0.out)) | exact HB.out)); rintro e w7 ⟨v203, rfl, ho0, hi, hb, hk⟩; refine ⟨_, rfl, ?_⟩; have HO204 := Aside0.mk (Kd.R_lower ho0 (keep_size (w := w) (g := g) (row := none) (hU HK.out))); replace HK := Aside0.mk (KeepBut.trans (hU HK.out) hk (.inl rfl)); replace HB := Aside0.mk (hb); replace HI0 := Aside0.mk (hi); (try clear hb); (try clear hb2); (try clear hk); (try clear hi); (try clear ho0)) | ((with_reducible refine gate_callee (f := 31) rfl ?_); refine goesL_ (some 7) rfl rfl Try.func31 (by kernel_rfl) rfl #[.pointer (some ⟨g, 0, none⟩), .int .i64 20] rfl lU ?_; (with_reducible refine (spec_l1Below.calls g s0_0 t205 t206 20 t207 t208 t209 w0 _ ?side1 ?side2 A3.out).mono ?_); (case side1 => exact iU0 HI0.out); (case side2 => repeat (first | (with_reducible first | exact HB.out | apply below_alloc | apply pw_below_drewN | apply below_drew1 | refine below_set ?_ (IsS56.ge HI0.out)) | exact HB.out)); rintro e w8 ⟨rfl, hi, hb, hk⟩; refine ⟨_, rfl, ?_⟩; replace HO204 := Aside0.mk (Kd.R_mono (Kd.R_keep (IsS56.apart (show IsS56 w0 _ g s0_0 t205 t206 from by exact iU0 HI0.out) (RU HO204.out) (by decide)) hk (fun _ h => h.2)) (fun _ h => h.1)); replace HK := Aside0.mk (KeepBut.trans (hU HK.out) hk (.inl rfl)); replace HB := Aside0.mk (hb); replace HI0 := Aside0.mk (hi); (try clear hb); (try clear hb2); (try clear hk); (try clear hi)) | ((with_reducible refine gate_dst (N := 12) rfl ?_); refine Kd.R_lit (Kd.int .i64) _ 3 ?hg (N := 12) ?hd (xs := ([(-1), 0, 300, 301] : List Int)) (inner := [.int .i64 (-1), .int .i64 0, .int .i64 300, .int .i64 301]) (ok := fun _ => True) (okp := fun _ => True) ?hr ?hp (fun _ hk => hk) trivial (Below.refl _ _) (Nat.le_refl _) (by simp) ?_; (case hd => rfl); (case hg => rfl); (case hr => first | (go_simp; done) | (go_simp; rfl)); (case hp => exact (Reps.one (show Kd.M (Kd.int .i64) _ _ _ (-1) [.int .i64 (-1)] from rfl) (Reps.one (show Kd.M (Kd.int .i64) _ _ _ 0 [.int .i64 0] from rfl) (Reps.one (show Kd.M (Kd.int .i64) _ _ _ 300 [.int .i64 300] from rfl) (Reps.one (show Kd.M (Kd.int .i64) _ _ _ 301 [.int .i64 301] from rfl) (Reps.none _ _)))))); intro v211 w9 ho10 hb hg_ hnew_; clear hg_ hnew_; (first | rw [← Ny210.out] at ho10 | (simp only [Int.reduceToNat] at ho10; rw [← Ny210.out] at ho10)); have HO212 := Aside0.mk (Kd.R_lower (Kd.R_new' ho10 (Kd.R_lt (RU HO204.out))) (keep_size (w := w) (g := g) (row := none) (hU HK.out))); replace HO204 := Aside0.mk (Kd.R_elder' (RU HO204.out) (Kd.R_base ho10) hb); replace HK := Aside0.mk (KeepBut.trans (hU HK.out) (KeepBut.of_below hb g none) (.inl rfl)); replace HB := Aside0.mk (below_step (by repeat (first | (with_reducible first | exact HB.out | apply below_alloc | apply pw_below_drewN | apply below_drew1 | refine below_set ?_ (IsS56.ge HI0.out)) | exact HB.out)) hb); replace HI0 := Aside0.mk (IsS56.below (iU0 HI0.out) hb); clear hb ho10; obtain ⟨Ao11, co11, eo11⟩ := Kd.R_slice HO212.out; subst eo11) | ((with_reducible refine gate_callee (f := 44) rfl ?_); refine goesL_ (some 13) rfl rfl Try.func44 (by kernel_rfl) rfl #[.pointer (some ⟨g, 0, none⟩), .slice Ao11 y210.length co11] rfl lU ?_; (with_reducible refine (spec_l1PickInt.calls g s0_0 t208 t209 _ _ y210 t213 t214 t215 w0 _ ?side1 ?side2 ?side3 ?side4 ?side5 A5.out).mono ?_); (case side1 => exact iU0 HI0.out); (case side2 => repeat (first | (with_reducible first | exact HB.out | apply below_alloc | apply pw_below_drewN | apply below_drew1 | refine below_set ?_ (IsS56.ge HI0.out)) | exact HB.out)); (case side3 => exact cU (Kd.R_reads' HO212.out).2.2); (case side4 => exact (Kd.R_reads' HO212.out).2.1); (case side5 => exact far_slice (IsS56.own_ne HI0.out HO212.out (by decide))); rintro e w12 ⟨rfl, hi, hb, hk⟩; refine ⟨_, rfl, ?_⟩; replace HO204 := Aside0.mk (Kd.R_mono (Kd.R_keep (IsS56.apart (show IsS56 w0 _ g s0_0 t208 t209 from by exact iU0 HI0.out) (RU HO204.out) (by decide)) hk (fun _ h => h.2)) (fun _ h => h.1)); replace HO212 := Aside0.mk (Kd.R_mono (Kd.R_keep (IsS56.apart (show IsS56 w0 _ g s0_0 t208 t209 from by exact iU0 HI0.out) (RU HO212.out) (by decide)) hk (fun _ h => h.2)) (fun _ h => h.1)); replace HK := Aside0.mk (KeepBut.trans (hU HK.out) hk (.inl rfl)); replace HB := Aside0.mk (hb); replace HI0 := Aside0.mk (hi); (try clear hb); (try clear hb2); (try clear hk); (try clear hi)) | ((with_reducible refine gate_builtin (b := .append) (xs := #[.tmp 10, .tmp 14]) rfl ?_); at_builtin; refine Kd.R_append (Kd.int .i64) w.heap.size rfl (.tmp 10) (.tmp 14) 24 3 (.int .i64 0) 8 rfl Try.underlying24 info3 rfl (by decide) (by omega) v203 t202 t213 [.int .i64 t213] (fun k_ => some k_ ≠ (.slice Ao11 y210.length co11 : Value).ownBlock) (fun _ => False) rfl rfl ?aP (fun _ hk => hk.elim) ?aF ?aO (Below.refl _ _) ?aS ?aL ?_; (case aP => exact rfl); (case aF => exact (fun k_ hk => Kd.fresh' (Kd.R_lt (RU HO212.out)) k_ hk)); (case aO => exact (by refine RU ?_; exact Kd.R_mono HO204.out (fun _ hk => hk.2))); (case aS => exact (keep_size (w := w) (g := g) (row := none) (hU HK.out))); (case aL => have := LMc6.out; omega); intro v217 w13 ho hb hg hat; rw [← Ny216.out] at ho; have n0_ := Aside0.mk (IsS56.grown (iU0 HI0.out) hg (IsS56.own_ne HI0.out HO204.out (by decide))); have n1_ := Aside0.mk (Kd.R_after (ok := (fun _ => True)) (RU HO212.out) hg hat); have n2_ := Aside0.mk (below_weaken (by repeat (first | (with_reducible first | exact HB.out | apply below_alloc | apply pw_below_drewN | apply below_drew1 | refine below_set ?_ (IsS56.ge HI0.out)) | exact HB.out)) HL.out hb); have n3_ := Aside0.mk (KeepBut.trans (hU HK.out) (KeepBut.of_grown hg g) (Kd.R_base2 HO204.out)); have n4_ := Aside0.mk (ho); clear HI0; clear HO212; clear HB; clear HK; clear HO204; have HI0 := n0_; have HO212 := n1_; have HB := n2_; have HK := n3_; have HO218 := n4_; clear n0_ n1_ n2_ n3_ n4_; clear ho hb hg hat))
   go_ret
   exact ⟨_, by first | rfl | (simp [errW_none, errW_some] <;> rfl) | (simp [*, errW_none, errW_some] <;> rfl), by refine RU ?_; exact Kd.R_mono HO218.out (fun _ hk => trivial), by exact iU0 HI0.out, by repeat (first | (with_reducible first | exact HB.out | apply below_alloc | apply pw_below_drewN | apply below_drew1 | refine below_set ?_ (IsS56.ge HI0.out)) | exact HB.out), by exact hU HK.out⟩
  ·
   rw [if_neg c6] at H
   exact absurd H (by simp)
 ·
  rw [if_neg c4] at H
  have c4b0 : (t207 == 0) = false := beq_eq_false_iff_ne.mpr c4
  have c4b1 : (t207 != 0) = true := bne_iff_ne.mpr c4
  by_cases c14 : t207 = 1
  ·
   rw [if_pos c14] at H
   have c14b0 : (t207 == 1) = true := beq_iff_eq.mpr c14
   have c14b1 : (t207 != 1) = false := bne_eq_false_iff_eq.mpr c14
   clear c14
   obtain ⟨y219, hy219⟩ : ∃ y_ : List Int, y_ = (([1, 1, 1, 1] : List Int)) := ⟨_, rfl⟩
   replace H : (some (y219, t208, t209)) = some (r1, r2, r3) := by first | (rw [hy219]; with_reducible exact H) | (have H2_ := (Option.bind_some _ _).symm.trans H; rw [hy219]; with_reducible exact H2_) | (have H2_ := (Option.bind_some _ _).symm.trans H; with_reducible exact H2_) | with_reducible exact H | (rw [hy219]; exact H) | exact H
   have Ny219 := Aside0.mk hy219
   clear hy219
   simp only [Option.some.injEq, Prod.mk.injEq] at H
   obtain ⟨rfl, rfl, rfl⟩ := H
   go_enter Try.func32, Try.ntmps32
   go_wp2_with (first | ((with_reducible refine gate_callee (f := 42) rfl ?_); refine goesL_ (some 5) rfl rfl Try.func42 (by kernel_rfl) rfl #[.pointer (some ⟨g, 0, none⟩)] rfl lU ?_; (with_reducible refine (spec_l2DrawRight.calls k g s0_0 s0_1 s0_2 t202 t205 t206 w0 _ ?side1 ?side2 A2.out).mono ?_); (case side1 => exact iU0 HI0.out); (case side2 => repeat (first | (with_reducible first | exact HB.out | apply below_alloc | apply pw_below_drewN | apply below_drew1 | refine below_set ?_ (IsS56.ge HI0.out)) | exact HB.out)); rintro e w15 ⟨v203, rfl, ho0, hi, hb, hk⟩; refine ⟨_, rfl, ?_⟩; have HO204 := Aside0.mk (Kd.R_lower ho0 (keep_size (w := w) (g := g) (row := none) (hU HK.out))); replace HK := Aside0.mk (KeepBut.trans (hU HK.out) hk (.inl rfl)); replace HB := Aside0.mk (hb); replace HI0 := Aside0.mk (hi); (try clear hb); (try clear hb2); (try clear hk); (try clear hi); (try clear ho0)) | ((with_reducible refine gate_callee (f := 31) rfl ?_); refine goesL_ (some 7) rfl rfl Try.func31 (by kernel_rfl) rfl #[.pointer (some ⟨g, 0, none⟩), .int .i64 20] rfl lU ?_; (with_reducible refine (spec_l1Below.calls g s0_0 t205 t206 20 t207 t208 t209 w0 _ ?side1 ?side2 A3.out).mono ?_); (case side1 => exact iU0 HI0.out); (case side2 => repeat (first | (with_reducible first | exact HB.out | apply below_alloc | apply pw_below_drewN | apply below_drew1 | refine below_set ?_ (IsS56.ge HI0.out)) | exact HB.out)); rintro e w16 ⟨rfl, hi, hb, hk⟩; refine ⟨_, rfl, ?_⟩; replace HO204 := Aside0.mk (Kd.R_mono (Kd.R_keep (IsS56.apart (show IsS56 w0 _ g s0_0 t205 t206 from by exact iU0 HI0.out) (RU HO204.out) (by decide)) hk (fun _ h => h.2)) (fun _ h => h.1)); replace HK := Aside0.mk (KeepBut.trans (hU HK.out) hk (.inl rfl)); replace HB := Aside0.mk (hb); replace HI0 := Aside0.mk (hi); (try clear hb); (try clear hb2); (try clear hk); (try clear hi)) | ((with_reducible refine gate_dst (N := 18) rfl ?_); refine Kd.R_lit (Kd.int .i64) _ 3 ?hg (N := 18) ?hd (xs := ([1, 1, 1, 1] : List Int)) (inner := [.int .i64 1, .int .i64 1, .int .i64 1, .int .i64 1]) (ok := fun _ => True) (okp := fun _ => True) ?hr ?hp (fun _ hk => hk) trivial (Below.refl _ _) (Nat.le_refl _) (by simp) ?_; (case hd => rfl); (case hg => rfl); (case hr => first | (go_simp; done) | (go_simp; rfl)); (case hp => exact (Reps.one (show Kd.M (Kd.int .i64) _ _ _ 1 [.int .i64 1] from rfl) (Reps.one (show Kd.M (Kd.int .i64) _ _ _ 1 [.int .i64 1] from rfl) (Reps.one (show Kd.M (Kd.int .i64) _ _ _ 1 [.int .i64 1] from rfl) (Reps.one (show Kd.M (Kd.int .i64) _ _ _ 1 [.int .i64 1] from rfl) (Reps.none _ _)))))); intro v220 w17 ho18 hb hg_ hnew_; clear hg_ hnew_; (first | rw [← Ny219.out] at ho18 | (simp only [Int.reduceToNat] at ho18; rw [← Ny219.out] at ho18)); have HO221 := Aside0.mk (Kd.R_lower (Kd.R_new' ho18 (Kd.R_lt (RU HO204.out))) (keep_size (w := w) (g := g) (row := none) (hU HK.out))); replace HO204 := Aside0.mk (Kd.R_elder' (RU HO204.out) (Kd.R_base ho18) hb); replace HK := Aside0.mk (KeepBut.trans (hU HK.out) (KeepBut.of_below hb g none) (.inl rfl)); replace HB := Aside0.mk (below_step (by repeat (first | (with_reducible first | exact HB.out | apply below_alloc | apply pw_below_drewN | apply below_drew1 | refine below_set ?_ (IsS56.ge HI0.out)) | exact HB.out)) hb); replace HI0 := Aside0.mk (IsS56.below (iU0 HI0.out) hb); clear hb ho18))
   go_ret
   exact ⟨_, by first | rfl | (simp [errW_none, errW_some] <;> rfl) | (simp [*, errW_none, errW_some] <;> rfl), by refine RU ?_; exact Kd.R_mono HO221.out (fun _ hk => trivial), by exact iU0 HI0.out, by repeat (first | (with_reducible first | exact HB.out | apply below_alloc | apply pw_below_drewN | apply below_drew1 | refine below_set ?_ (IsS56.ge HI0.out)) | exact HB.out), by exact hU HK.out⟩
  ·
   rw [if_neg c14] at H
   have c14b0 : (t207 == 1) = false := beq_eq_false_iff_ne.mpr c14
   have c14b1 : (t207 != 1) = true := bne_iff_ne.mpr c14
   by_cases c19 : t207 = 2
   ·
    rw [if_pos c19] at H
    have c19b0 : (t207 == 2) = true := beq_iff_eq.mpr c19
    have c19b1 : (t207 != 2) = false := bne_eq_false_iff_eq.mpr c19
    clear c19
    obtain ⟨y222, hy222⟩ : ∃ y_ : List Int, y_ = (([17, 20, 15, 300] : List Int)) := ⟨_, rfl⟩
    replace H : ((spec_l1PickInt.f s0_0 t208 t209 y222).bind fun bt225 => ((spec_l1PickInt.f s0_0 bt225.2.1 bt225.2.2 (([15, 20, 16, 0] : List Int))).bind fun bt231 => (some ((([bt225.1, bt231.1] : List Int)), bt231.2.1, bt231.2.2)))) = some (r1, r2, r3) := by first | (rw [hy222]; with_reducible exact H) | (have H2_ := (Option.bind_some _ _).symm.trans H; rw [hy222]; with_reducible exact H2_) | (have H2_ := (Option.bind_some _ _).symm.trans H; with_reducible exact H2_) | with_reducible exact H | (rw [hy222]; exact H) | exact H
    have Ny222 := Aside0.mk hy222
    clear hy222
    replace H := Option.bind_eq_some_iff.mp H
    obtain ⟨⟨t225, t226, t227⟩, A200, H⟩ := H
    replace H : ((spec_l1PickInt.f s0_0 t226 t227 (([15, 20, 16, 0] : List Int))).bind fun bt231 => (some ((([t225, bt231.1] : List Int)), bt231.2.1, bt231.2.2))) = some (r1, r2, r3) := H
    have A20 := Aside0.mk A200
    clear A200
    obtain ⟨y228, hy228⟩ : ∃ y_ : List Int, y_ = (([15, 20, 16, 0] : List Int)) := ⟨_, rfl⟩
    replace H : ((spec_l1PickInt.f s0_0 t226 t227 y228).bind fun bt231 => (some ((([t225, bt231.1] : List Int)), bt231.2.1, bt231.2.2))) = some (r1, r2, r3) := by first | (rw [hy228]; with_reducible exact H) | (have H2_ := (Option.bind_some _ _).symm.trans H; rw [hy228]; with_reducible exact H2_) | (have H2_ := (Option.bind_some _ _).symm.trans H; with_reducible exact H2_) | with_reducible exact H | (rw [hy228]; exact H) | exact H
    have Ny228 := Aside0.mk hy228
    clear hy228
    replace H := Option.bind_eq_some_iff.mp H
    obtain ⟨⟨t231, t232, t233⟩, A210, H⟩ := H
    replace H : (some ((([t225, t231] : List Int)), t232, t233)) = some (r1, r2, r3) := H
    have A21 := Aside0.mk A210
    clear A210
    obtain ⟨y234, hy234⟩ : ∃ y_ : List Int, y_ = (([t225, t231] : List Int)) := ⟨_, rfl⟩
    replace H : (some (y234, t232, t233)) = some (r1, r2, r3) := by first | (rw [hy234]; with_reducible exact H) | (have H2_ := (Option.bind_some _ _).symm.trans H; rw [hy234]; with_reducible exact H2_) | (have H2_ := (Option.bind_some _ _).symm.trans H; with_reducible exact H2_) | with_reducible exact H | (rw [hy234]; exact H) | exact H
    have Ny234 := Aside0.mk hy234
    clear hy234
    simp only [Option.some.injEq, Prod.mk.injEq] at H
    obtain ⟨rfl, rfl, rfl⟩ := H
    go_enter Try.func32, Try.ntmps32
    go_wp2_with (first | ((with_reducible refine gate_callee (f := 42) rfl ?_); refine goesL_ (some 5) rfl rfl Try.func42 (by kernel_rfl) rfl #[.pointer (some ⟨g, 0, none⟩)] rfl lU ?_; (with_reducible refine (spec_l2DrawRight.calls k g s0_0 s0_1 s0_2 t202 t205 t206 w0 _ ?side1 ?side2 A2.out).mono ?_); (case side1 => exact iU0 HI0.out); (case side2 => repeat (first | (with_reducible first | exact HB.out | apply below_alloc | apply pw_below_drewN | apply below_drew1 | refine below_set ?_ (IsS56.ge HI0.out)) | exact HB.out)); rintro e w22 ⟨v203, rfl, ho0, hi, hb, hk⟩; refine ⟨_, rfl, ?_⟩; have HO204 := Aside0.mk (Kd.R_lower ho0 (keep_size (w := w) (g := g) (row := none) (hU HK.out))); replace HK := Aside0.mk (KeepBut.trans (hU HK.out) hk (.inl rfl)); replace HB := Aside0.mk (hb); replace HI0 := Aside0.mk (hi); (try clear hb); (try clear hb2); (try clear hk); (try clear hi); (try clear ho0)) | ((with_reducible refine gate_callee (f := 31) rfl ?_); refine goesL_ (some 7) rfl rfl Try.func31 (by kernel_rfl) rfl #[.pointer (some ⟨g, 0, none⟩), .int .i64 20] rfl lU ?_; (with_reducible refine (spec_l1Below.calls g s0_0 t205 t206 20 t207 t208 t209 w0 _ ?side1 ?side2 A3.out).mono ?_); (case side1 => exact iU0 HI0.out); (case side2 => repeat (first | (with_reducible first | exact HB.out | apply below_alloc | apply pw_below_drewN | apply below_drew1 | refine below_set ?_ (IsS56.ge HI0.out)) | exact HB.out)); rintro e w23 ⟨rfl, hi, hb, hk⟩; refine ⟨_, rfl, ?_⟩; replace HO204 := Aside0.mk (Kd.R_mono (Kd.R_keep (IsS56.apart (show IsS56 w0 _ g s0_0 t205 t206 from by exact iU0 HI0.out) (RU HO204.out) (by decide)) hk (fun _ h => h.2)) (fun _ h => h.1)); replace HK := Aside0.mk (KeepBut.trans (hU HK.out) hk (.inl rfl)); replace HB := Aside0.mk (hb); replace HI0 := Aside0.mk (hi); (try clear hb); (try clear hb2); (try clear hk); (try clear hi)) | ((with_reducible refine gate_dst (N := 22) rfl ?_); refine Kd.R_lit (Kd.int .i64) _ 3 ?hg (N := 22) ?hd (xs := ([17, 20, 15, 300] : List Int)) (inner := [.int .i64 17, .int .i64 20, .int .i64 15, .int .i64 300]) (ok := fun _ => True) (okp := fun _ => True) ?hr ?hp (fun _ hk => hk) trivial (Below.refl _ _) (Nat.le_refl _) (by simp) ?_; (case hd => rfl); (case hg => rfl); (case hr => first | (go_simp; done) | (go_simp; rfl)); (case hp => exact (Reps.one (show Kd.M (Kd.int .i64) _ _ _ 17 [.int .i64 17] from rfl) (Reps.one (show Kd.M (Kd.int .i64) _ _ _ 20 [.int .i64 20] from rfl) (Reps.one (show Kd.M (Kd.int .i64) _ _ _ 15 [.int .i64 15] from rfl) (Reps.one (show Kd.M (Kd.int .i64) _ _ _ 300 [.int .i64 300] from rfl) (Reps.none _ _)))))); intro v223 w24 ho25 hb hg_ hnew_; clear hg_ hnew_; (first | rw [← Ny222.out] at ho25 | (simp only [Int.reduceToNat] at ho25; rw [← Ny222.out] at ho25)); have HO224 := Aside0.mk (Kd.R_lower (Kd.R_new' ho25 (Kd.R_lt (RU HO204.out))) (keep_size (w := w) (g := g) (row := none) (hU HK.out))); replace HO204 := Aside0.mk (Kd.R_elder' (RU HO204.out) (Kd.R_base ho25) hb); replace HK := Aside0.mk (KeepBut.trans (hU HK.out) (KeepBut.of_below hb g none) (.inl rfl)); replace HB := Aside0.mk (below_step (by repeat (first | (with_reducible first | exact HB.out | apply below_alloc | apply pw_below_drewN | apply below_drew1 | refine below_set ?_ (IsS56.ge HI0.out)) | exact HB.out)) hb); replace HI0 := Aside0.mk (IsS56.below (iU0 HI0.out) hb); clear hb ho25; obtain ⟨Ao26, co26, eo26⟩ := Kd.R_slice HO224.out; subst eo26) | ((with_reducible refine gate_callee (f := 44) rfl ?_); refine goesL_ (some 23) rfl rfl Try.func44 (by kernel_rfl) rfl #[.pointer (some ⟨g, 0, none⟩), .slice Ao26 y222.length co26] rfl lU ?_; (with_reducible refine (spec_l1PickInt.calls g s0_0 t208 t209 _ _ y222 t225 t226 t227 w0 _ ?side1 ?side2 ?side3 ?side4 ?side5 A20.out).mono ?_); (case side1 => exact iU0 HI0.out); (case side2 => repeat (first | (with_reducible first | exact HB.out | apply below_alloc | apply pw_below_drewN | apply below_drew1 | refine below_set ?_ (IsS56.ge HI0.out)) | exact HB.out)); (case side3 => exact cU (Kd.R_reads' HO224.out).2.2); (case side4 => exact (Kd.R_reads' HO224.out).2.1); (case side5 => exact far_slice (IsS56.own_ne HI0.out HO224.out (by decide))); rintro e w27 ⟨rfl, hi, hb, hk⟩; refine ⟨_, rfl, ?_⟩; replace HO204 := Aside0.mk (Kd.R_mono (Kd.R_keep (IsS56.apart (show IsS56 w0 _ g s0_0 t208 t209 from by exact iU0 HI0.out) (RU HO204.out) (by decide)) hk (fun _ h => h.2)) (fun _ h => h.1)); replace HO224 := Aside0.mk (Kd.R_mono (Kd.R_keep (IsS56.apart (show IsS56 w0 _ g s0_0 t208 t209 from by exact iU0 HI0.out) (RU HO224.out) (by decide)) hk (fun _ h => h.2)) (fun _ h => h.1)); replace HK := Aside0.mk (KeepBut.trans (hU HK.out) hk (.inl rfl)); replace HB := Aside0.mk (hb); replace HI0 := Aside0.mk (hi); (try clear hb); (try clear hb2); (try clear hk); (try clear hi)) | ((with_reducible refine gate_dst (N := 25) rfl ?_); refine Kd.R_lit (Kd.int .i64) _ 3 ?hg (N := 25) ?hd (xs := ([15, 20, 16, 0] : List Int)) (inner := [.int .i64 15, .int .i64 20, .int .i64 16, .int .i64 0]) (ok := fun _ => True) (okp := fun _ => True) ?hr ?hp (fun _ hk => hk) trivial (Below.refl _ _) (Nat.le_refl _) (by simp) ?_; (case hd => rfl); (case hg => rfl); (case hr => first | (go_simp; done) | (go_simp; rfl)); (case hp => exact (Reps.one (show Kd.M (Kd.int .i64) _ _ _ 15 [.int .i64 15] from rfl) (Reps.one (show Kd.M (Kd.int .i64) _ _ _ 20 [.int .i64 20] from rfl) (Reps.one (show Kd.M (Kd.int .i64) _ _ _ 16 [.int .i64 16] from rfl) (Reps.one (show Kd.M (Kd.int .i64) _ _ _ 0 [.int .i64 0] from rfl) (Reps.none _ _)))))); intro v229 w28 ho29 hb hg_ hnew_; clear hg_ hnew_; (first | rw [← Ny228.out] at ho29 | (simp only [Int.reduceToNat] at ho29; rw [← Ny228.out] at ho29)); have HO230 := Aside0.mk (Kd.R_lower (Kd.R_new' (Kd.R_new' ho29 (Kd.R_lt (RU HO204.out))) (Kd.R_lt (RU HO224.out))) (keep_size (w := w) (g := g) (row := none) (hU HK.out))); replace HO204 := Aside0.mk (Kd.R_elder' (RU HO204.out) (Kd.R_base ho29) hb); replace HO224 := Aside0.mk (Kd.R_elder' (RU HO224.out) (Kd.R_base ho29) hb); replace HK := Aside0.mk (KeepBut.trans (hU HK.out) (KeepBut.of_below hb g none) (.inl rfl)); replace HB := Aside0.mk (below_step (by repeat (first | (with_reducible first | exact HB.out | apply below_alloc | apply pw_below_drewN | apply below_drew1 | refine below_set ?_ (IsS56.ge HI0.out)) | exact HB.out)) hb); replace HI0 := Aside0.mk (IsS56.below (iU0 HI0.out) hb); clear hb ho29; obtain ⟨Ao30, co30, eo30⟩ := Kd.R_slice HO230.out; subst eo30) | ((with_reducible refine gate_callee (f := 44) rfl ?_); refine goesL_ (some 26) rfl rfl Try.func44 (by kernel_rfl) rfl #[.pointer (some ⟨g, 0, none⟩), .slice Ao30 y228.length co30] rfl lU ?_; (with_reducible refine (spec_l1PickInt.calls g s0_0 t226 t227 _ _ y228 t231 t232 t233 w0 _ ?side1 ?side2 ?side3 ?side4 ?side5 A21.out).mono ?_); (case side1 => exact iU0 HI0.out); (case side2 => repeat (first | (with_reducible first | exact HB.out | apply below_alloc | apply pw_below_drewN | apply below_drew1 | refine below_set ?_ (IsS56.ge HI0.out)) | exact HB.out)); (case side3 => exact cU (Kd.R_reads' HO230.out).2.2); (case side4 => exact (Kd.R_reads' HO230.out).2.1); (case side5 => exact far_slice (IsS56.own_ne HI0.out HO230.out (by decide))); rintro e w31 ⟨rfl, hi, hb, hk⟩; refine ⟨_, rfl, ?_⟩; replace HO204 := Aside0.mk (Kd.R_mono (Kd.R_keep (IsS56.apart (show IsS56 w0 _ g s0_0 t226 t227 from by exact iU0 HI0.out) (RU HO204.out) (by decide)) hk (fun _ h => h.2)) (fun _ h => h.1)); replace HO224 := Aside0.mk (Kd.R_mono (Kd.R_keep (IsS56.apart (show IsS56 w0 _ g s0_0 t226 t227 from by exact iU0 HI0.out) (RU HO224.out) (by decide)) hk (fun _ h => h.2)) (fun _ h => h.1)); replace HO230 := Aside0.mk (Kd.R_mono (Kd.R_keep (IsS56.apart (show IsS56 w0 _ g s0_0 t226 t227 from by exact iU0 HI0.out) (RU HO230.out) (by decide)) hk (fun _ h => h.2)) (fun _ h => h.1)); replace HK := Aside0.mk (KeepBut.trans (hU HK.out) hk (.inl rfl)); replace HB := Aside0.mk (hb); replace HI0 := Aside0.mk (hi); (try clear hb); (try clear hb2); (try clear hk); (try clear hi)) | ((with_reducible refine gate_dst (N := 27) rfl ?_); refine Kd.R_lit (Kd.int .i64) _ 3 ?hg (N := 27) ?hd (xs := ([t225, t231] : List Int)) (inner := [.int .i64 t225, .int .i64 t231]) (ok := fun _ => True) (okp := fun _ => True) ?hr ?hp (fun _ hk => hk) trivial (Below.refl _ _) (Nat.le_refl _) (by simp) ?_; (case hd => rfl); (case hg => rfl); (case hr => first | (go_simp; done) | (go_simp; rfl)); (case hp => exact (Reps.one (show Kd.M (Kd.int .i64) _ _ _ t225 [.int .i64 t225] from rfl) (Reps.one (show Kd.M (Kd.int .i64) _ _ _ t231 [.int .i64 t231] from rfl) (Reps.none _ _)))); intro v235 w32 ho33 hb hg_ hnew_; clear hg_ hnew_; (first | rw [← Ny234.out] at ho33 | (simp only [Int.reduceToNat] at ho33; rw [← Ny234.out] at ho33)); have HO236 := Aside0.mk (Kd.R_lower (Kd.R_new' (Kd.R_new' (Kd.R_new' ho33 (Kd.R_lt (RU HO204.out))) (Kd.R_lt (RU HO224.out))) (Kd.R_lt (RU HO230.out))) (keep_size (w := w) (g := g) (row := none) (hU HK.out))); replace HO204 := Aside0.mk (Kd.R_elder' (RU HO204.out) (Kd.R_base ho33) hb); replace HO224 := Aside0.mk (Kd.R_elder' (RU HO224.out) (Kd.R_base ho33) hb); replace HO230 := Aside0.mk (Kd.R_elder' (RU HO230.out) (Kd.R_base ho33) hb); replace HK := Aside0.mk (KeepBut.trans (hU HK.out) (KeepBut.of_below hb g none) (.inl rfl)); replace HB := Aside0.mk (below_step (by repeat (first | (with_reducible first | exact HB.out | apply below_alloc | apply pw_below_drewN | apply below_drew1 | refine below_set ?_ (IsS56.ge HI0.out)) | exact HB.out)) hb); replace HI0 := Aside0.mk (IsS56.below (iU0 HI0.out) hb); clear hb ho33))
    go_ret
    exact ⟨_, by first | rfl | (simp [errW_none, errW_some] <;> rfl) | (simp [*, errW_none, errW_some] <;> rfl), by refine RU ?_; exact Kd.R_mono HO236.out (fun _ hk => trivial), by exact iU0 HI0.out, by repeat (first | (with_reducible first | exact HB.out | apply below_alloc | apply pw_below_drewN | apply below_drew1 | refine below_set ?_ (IsS56.ge HI0.out)) | exact HB.out), by exact hU HK.out⟩
   ·
    rw [if_neg c19] at H
    have c19b0 : (t207 == 2) = false := beq_eq_false_iff_ne.mpr c19
    have c19b1 : (t207 != 2) = true := bne_iff_ne.mpr c19
    simp only [Option.some.injEq, Prod.mk.injEq] at H
    obtain ⟨rfl, rfl, rfl⟩ := H
    go_enter Try.func32, Try.ntmps32
    go_wp2_with (first | ((with_reducible refine gate_callee (f := 42) rfl ?_); refine goesL_ (some 5) rfl rfl Try.func42 (by kernel_rfl) rfl #[.pointer (some ⟨g, 0, none⟩)] rfl lU ?_; (with_reducible refine (spec_l2DrawRight.calls k g s0_0 s0_1 s0_2 t202 t205 t206 w0 _ ?side1 ?side2 A2.out).mono ?_); (case side1 => exact iU0 HI0.out); (case side2 => repeat (first | (with_reducible first | exact HB.out | apply below_alloc | apply pw_below_drewN | apply below_drew1 | refine below_set ?_ (IsS56.ge HI0.out)) | exact HB.out)); rintro e w34 ⟨v203, rfl, ho0, hi, hb, hk⟩; refine ⟨_, rfl, ?_⟩; have HO204 := Aside0.mk (Kd.R_lower ho0 (keep_size (w := w) (g := g) (row := none) (hU HK.out))); replace HK := Aside0.mk (KeepBut.trans (hU HK.out) hk (.inl rfl)); replace HB := Aside0.mk (hb); replace HI0 := Aside0.mk (hi); (try clear hb); (try clear hb2); (try clear hk); (try clear hi); (try clear ho0)) | ((with_reducible refine gate_callee (f := 31) rfl ?_); refine goesL_ (some 7) rfl rfl Try.func31 (by kernel_rfl) rfl #[.pointer (some ⟨g, 0, none⟩), .int .i64 20] rfl lU ?_; (with_reducible refine (spec_l1Below.calls g s0_0 t205 t206 20 t207 t208 t209 w0 _ ?side1 ?side2 A3.out).mono ?_); (case side1 => exact iU0 HI0.out); (case side2 => repeat (first | (with_reducible first | exact HB.out | apply below_alloc | apply pw_below_drewN | apply below_drew1 | refine below_set ?_ (IsS56.ge HI0.out)) | exact HB.out)); rintro e w35 ⟨rfl, hi, hb, hk⟩; refine ⟨_, rfl, ?_⟩; replace HO204 := Aside0.mk (Kd.R_mono (Kd.R_keep (IsS56.apart (show IsS56 w0 _ g s0_0 t205 t206 from by exact iU0 HI0.out) (RU HO204.out) (by decide)) hk (fun _ h => h.2)) (fun _ h => h.1)); replace HK := Aside0.mk (KeepBut.trans (hU HK.out) hk (.inl rfl)); replace HB := Aside0.mk (hb); replace HI0 := Aside0.mk (hi); (try clear hb); (try clear hb2); (try clear hk); (try clear hi)))
    go_ret
    exact ⟨_, by first | rfl | (simp [errW_none, errW_some] <;> rfl) | (simp [*, errW_none, errW_some] <;> rfl), by refine RU ?_; exact HO204.out, by exact iU0 HI0.out, by repeat (first | (with_reducible first | exact HB.out | apply below_alloc | apply pw_below_drewN | apply below_drew1 | refine below_set ?_ (IsS56.ge HI0.out)) | exact HB.out), by exact hU HK.out⟩

/-! ### spec_l1DrawRaw: function 33 -/
def spec_l1DrawRaw.f (s0_0 : List Int) (s0_1 : Int) (s0_2 : Int) : Option (Int × Int × Int) := (spec_l1Once.f s0_0 s0_1 s0_2 15).bind fun bt237 => (if bt237.1 = true then ((spec_l1PickInt.f s0_0 bt237.2.1 bt237.2.2 (([1000000000001, (-1000000000001), 9223372036854775807, (-9223372036854775808)] : List Int))).bind fun bt243 => (some (bt243.1, bt243.2.1, bt243.2.2))) else ((spec_l1DrawNum.f s0_0 bt237.2.1 bt237.2.2).bind fun bt246 => (some (bt246.1, bt246.2.1, bt246.2.2))))
set_option maxHeartbeats 8000000 in
set_option maxRecDepth 100000 in
theorem spec_l1DrawRaw.calls (g : Nat) (s0_0 : List Int) (s0_1 : Int) (s0_2 : Int) (r1 : Int) (r2 : Int) (r3 : Int) (w0 w : World) (hI : IsS56 w0 w g s0_0 s0_1 s0_2) (hB : Below w0.heap.size w0 w) (h : spec_l1DrawRaw.f s0_0 s0_1 s0_2 = some (r1, r2, r3)) :
  Calls Try.prog 33 #[.pointer (some ⟨g, 0, none⟩)] w fun e w' => e = .returned (.int .i64 r1) ∧ IsS56 w0 w' g s0_0 r2 r3 ∧ Below w0.heap.size w0 w' ∧ KeepBut w w' g none := by
 have HI0 := Aside0.mk hI
 have HK := Aside0.mk (KeepBut.refl w g none)
 have HL := Aside0.mk hB.size
 clear hI
 have HW0 := Aside0.mk hB.size
 have HB := Aside0.mk hB
 clear hB
 have H : ((spec_l1Once.f s0_0 s0_1 s0_2 15).bind fun bt237 => (if bt237.1 = true then ((spec_l1PickInt.f s0_0 bt237.2.1 bt237.2.2 (([1000000000001, (-1000000000001), 9223372036854775807, (-9223372036854775808)] : List Int))).bind fun bt243 => (some (bt243.1, bt243.2.1, bt243.2.2))) else ((spec_l1DrawNum.f s0_0 bt237.2.1 bt237.2.2).bind fun bt246 => (some (bt246.1, bt246.2.1, bt246.2.2))))) = some (r1, r2, r3) := h
 clear h
 replace H := Option.bind_eq_some_iff.mp H
 obtain ⟨⟨t237, t238, t239⟩, A20, H⟩ := H
 replace H : (if t237 = true then ((spec_l1PickInt.f s0_0 t238 t239 (([1000000000001, (-1000000000001), 9223372036854775807, (-9223372036854775808)] : List Int))).bind fun bt243 => (some (bt243.1, bt243.2.1, bt243.2.2))) else ((spec_l1DrawNum.f s0_0 t238 t239).bind fun bt246 => (some (bt246.1, bt246.2.1, bt246.2.2)))) = some (r1, r2, r3) := H
 have A2 := Aside0.mk A20
 clear A20
 by_cases c3 : t237 = true
 ·
  subst c3
  have H1 : ((spec_l1PickInt.f s0_0 t238 t239 (([1000000000001, (-1000000000001), 9223372036854775807, (-9223372036854775808)] : List Int))).bind fun bt243 => (some (bt243.1, bt243.2.1, bt243.2.2))) = some (r1, r2, r3) := by rw [if_pos rfl] at H; exact H
  clear H
  have H := H1
  clear H1
  obtain ⟨y240, hy240⟩ : ∃ y_ : List Int, y_ = (([1000000000001, (-1000000000001), 9223372036854775807, (-9223372036854775808)] : List Int)) := ⟨_, rfl⟩
  replace H : ((spec_l1PickInt.f s0_0 t238 t239 y240).bind fun bt243 => (some (bt243.1, bt243.2.1, bt243.2.2))) = some (r1, r2, r3) := by first | (rw [hy240]; with_reducible exact H) | (have H2_ := (Option.bind_some _ _).symm.trans H; rw [hy240]; with_reducible exact H2_) | (have H2_ := (Option.bind_some _ _).symm.trans H; with_reducible exact H2_) | with_reducible exact H | (rw [hy240]; exact H) | exact H
  have Ny240 := Aside0.mk hy240
  clear hy240
  replace H := Option.bind_eq_some_iff.mp H
  obtain ⟨⟨t243, t244, t245⟩, A40, H⟩ := H
  replace H : (some (t243, t244, t245)) = some (r1, r2, r3) := H
  have A4 := Aside0.mk A40
  clear A40
  simp only [Option.some.injEq, Prod.mk.injEq] at H
  obtain ⟨rfl, rfl, rfl⟩ := H
  go_enter Try.func33, Try.ntmps33
  go_wp2_with (first | ((with_reducible refine gate_callee (f := 45) rfl ?_); refine goesL_ (some 4) rfl rfl Try.func45 (by kernel_rfl) rfl #[.pointer (some ⟨g, 0, none⟩), .int .i64 15] rfl lU ?_; (with_reducible refine (spec_l1Once.calls g s0_0 s0_1 s0_2 15 true t238 t239 w0 _ ?side1 ?side2 A2.out).mono ?_); (case side1 => exact iU0 HI0.out); (case side2 => repeat (first | (with_reducible first | exact HB.out | apply below_alloc | apply pw_below_drewN | apply below_drew1 | refine below_set ?_ (IsS56.ge HI0.out)) | exact HB.out)); rintro e w5 ⟨rfl, hi, hb, hk⟩; refine ⟨_, rfl, ?_⟩; replace HK := Aside0.mk (KeepBut.trans (hU HK.out) hk (.inl rfl)); replace HB := Aside0.mk (hb); replace HI0 := Aside0.mk (hi); (try clear hb); (try clear hb2); (try clear hk); (try clear hi)) | ((with_reducible refine gate_dst (N := 6) rfl ?_); refine Kd.R_lit (Kd.int .i64) _ 3 ?hg (N := 6) ?hd (xs := ([1000000000001, (-1000000000001), 9223372036854775807, (-9223372036854775808)] : List Int)) (inner := [.int .i64 1000000000001, .int .i64 (-1000000000001), .int .i64 9223372036854775807, .int .i64 (-9223372036854775808)]) (ok := fun _ => True) (okp := fun _ => True) ?hr ?hp (fun _ hk => hk) trivial (Below.refl _ _) (Nat.le_refl _) (by simp) ?_; (case hd => rfl); (case hg => rfl); (case hr => first | (go_simp; done) | (go_simp; rfl)); (case hp => exact (Reps.one (show Kd.M (Kd.int .i64) _ _ _ 1000000000001 [.int .i64 1000000000001] from rfl) (Reps.one (show Kd.M (Kd.int .i64) _ _ _ (-1000000000001) [.int .i64 (-1000000000001)] from rfl) (Reps.one (show Kd.M (Kd.int .i64) _ _ _ 9223372036854775807 [.int .i64 9223372036854775807] from rfl) (Reps.one (show Kd.M (Kd.int .i64) _ _ _ (-9223372036854775808) [.int .i64 (-9223372036854775808)] from rfl) (Reps.none _ _)))))); intro v241 w6 ho7 hb hg_ hnew_; clear hg_ hnew_; (first | rw [← Ny240.out] at ho7 | (simp only [Int.reduceToNat] at ho7; rw [← Ny240.out] at ho7)); have HO242 := Aside0.mk (Kd.R_lower ho7 (keep_size (w := w) (g := g) (row := none) (hU HK.out))); replace HK := Aside0.mk (KeepBut.trans (hU HK.out) (KeepBut.of_below hb g none) (.inl rfl)); replace HB := Aside0.mk (below_step (by repeat (first | (with_reducible first | exact HB.out | apply below_alloc | apply pw_below_drewN | apply below_drew1 | refine below_set ?_ (IsS56.ge HI0.out)) | exact HB.out)) hb); replace HI0 := Aside0.mk (IsS56.below (iU0 HI0.out) hb); clear hb ho7; obtain ⟨Ao8, co8, eo8⟩ := Kd.R_slice HO242.out; subst eo8) | ((with_reducible refine gate_callee (f := 44) rfl ?_); refine goesL_ (some 7) rfl rfl Try.func44 (by kernel_rfl) rfl #[.pointer (some ⟨g, 0, none⟩), .slice Ao8 y240.length co8] rfl lU ?_; (with_reducible refine (spec_l1PickInt.calls g s0_0 t238 t239 _ _ y240 t243 t244 t245 w0 _ ?side1 ?side2 ?side3 ?side4 ?side5 A4.out).mono ?_); (case side1 => exact iU0 HI0.out); (case side2 => repeat (first | (with_reducible first | exact HB.out | apply below_alloc | apply pw_below_drewN | apply below_drew1 | refine below_set ?_ (IsS56.ge HI0.out)) | exact HB.out)); (case side3 => exact cU (Kd.R_reads' HO242.out).2.2); (case side4 => exact (Kd.R_reads' HO242.out).2.1); (case side5 => exact far_slice (IsS56.own_ne HI0.out HO242.out (by decide))); rintro e w9 ⟨rfl, hi, hb, hk⟩; refine ⟨_, rfl, ?_⟩; replace HO242 := Aside0.mk (Kd.R_mono (Kd.R_keep (IsS56.apart (show IsS56 w0 _ g s0_0 t238 t239 from by exact iU0 HI0.out) (RU HO242.out) (by decide)) hk (fun _ h => h.2)) (fun _ h => h.1)); replace HK := Aside0.mk (KeepBut.trans (hU HK.out) hk (.inl rfl)); replace HB := Aside0.mk (hb); replace HI0 := Aside0.mk (hi); (try clear hb); (try clear hb2); (try clear hk); (try clear hi)))
  go_ret
  exact ⟨by first | rfl | (simp [errW_none, errW_some] <;> rfl) | (simp [*, errW_none, errW_some] <;> rfl), by exact iU0 HI0.out, by repeat (first | (with_reducible first | exact HB.out | apply below_alloc | apply pw_below_drewN | apply below_drew1 | refine below_set ?_ (IsS56.ge HI0.out)) | exact HB.out), by exact hU HK.out⟩
 ·
  replace c3 := Bool.eq_false_iff.mpr c3
  subst c3
  have H1 : ((spec_l1DrawNum.f s0_0 t238 t239).bind fun bt246 => (some (bt246.1, bt246.2.1, bt246.2.2))) = some (r1, r2, r3) := by rw [if_neg (show ¬ (false = true) by decide)] at H; exact H
  clear H
  have H := H1
  clear H1
  replace H := Option.bind_eq_some_iff.mp H
  obtain ⟨⟨t246, t247, t248⟩, A100, H⟩ := H
  replace H : (some (t246, t247, t248)) = some (r1, r2, r3) := H
  have A10 := Aside0.mk A100
  clear A100
  simp only [Option.some.injEq, Prod.mk.injEq] at H
  obtain ⟨rfl, rfl, rfl⟩ := H
  go_enter Try.func33, Try.ntmps33
  go_wp2_with (first | ((with_reducible refine gate_callee (f := 45) rfl ?_); refine goesL_ (some 4) rfl rfl Try.func45 (by kernel_rfl) rfl #[.pointer (some ⟨g, 0, none⟩), .int .i64 15] rfl lU ?_; (with_reducible refine (spec_l1Once.calls g s0_0 s0_1 s0_2 15 false t238 t239 w0 _ ?side1 ?side2 A2.out).mono ?_); (case side1 => exact iU0 HI0.out); (case side2 => repeat (first | (with_reducible first | exact HB.out | apply below_alloc | apply pw_below_drewN | apply below_drew1 | refine below_set ?_ (IsS56.ge HI0.out)) | exact HB.out)); rintro e w11 ⟨rfl, hi, hb, hk⟩; refine ⟨_, rfl, ?_⟩; replace HK := Aside0.mk (KeepBut.trans (hU HK.out) hk (.inl rfl)); replace HB := Aside0.mk (hb); replace HI0 := Aside0.mk (hi); (try clear hb); (try clear hb2); (try clear hk); (try clear hi)) | ((with_reducible refine gate_callee (f := 46) rfl ?_); refine goesL_ (some 9) rfl rfl Try.func46 (by kernel_rfl) rfl #[.pointer (some ⟨g, 0, none⟩)] rfl lU ?_; (with_reducible refine (spec_l1DrawNum.calls g s0_0 t238 t239 t246 t247 t248 w0 _ ?side1 ?side2 A10.out).mono ?_); (case side1 => exact iU0 HI0.out); (case side2 => repeat (first | (with_reducible first | exact HB.out | apply below_alloc | apply pw_below_drewN | apply below_drew1 | refine below_set ?_ (IsS56.ge HI0.out)) | exact HB.out)); rintro e w12 ⟨rfl, hi, hb, hk⟩; refine ⟨_, rfl, ?_⟩; replace HK := Aside0.mk (KeepBut.trans (hU HK.out) hk (.inl rfl)); replace HB := Aside0.mk (hb); replace HI0 := Aside0.mk (hi); (try clear hb); (try clear hb2); (try clear hk); (try clear hi)))
  go_ret
  exact ⟨by first | rfl | (simp [errW_none, errW_some] <;> rfl) | (simp [*, errW_none, errW_some] <;> rfl), by exact iU0 HI0.out, by repeat (first | (with_reducible first | exact HB.out | apply below_alloc | apply pw_below_drewN | apply below_drew1 | refine below_set ?_ (IsS56.ge HI0.out)) | exact HB.out), by exact hU HK.out⟩

end Go.Proofs.Ytkjcpgjhpfocmaa.PFnTurned
