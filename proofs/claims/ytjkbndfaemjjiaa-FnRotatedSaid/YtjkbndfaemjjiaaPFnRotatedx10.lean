/- The walk of what a law reaches, for the law's row: written by a program of this session; it has no condition of its own. -/
import Derived.Test.YtjkbndfaemjjiaaPFnRotatedx0
import Derived.Test.YtjkbndfaemjjiaaPFnRotatedx7
import Derived.Test.YtjkbndfaemjjiaaPFnRotatedx8
import Derived.Test.YtjkbndfaemjjiaaPFnRotatedx9
namespace Go.Proofs.Ytjkbndfaemjjiaa.PFnRotated
open Go.RowKit Go.Proofs.YtjkbndfaemjjiaaW.PrintWords Go.Proofs.YtjkbndfaemjjiaaW.PrintLast Go.Proofs.YtjkbndfaemjjiaaW.PrintMore
attribute [local go_sem] max2_int min2_int max_two min_two max_three min_three max_four min_four   -- for this text's walks alone
set_option linter.unusedVariables false
set_option linter.unusedSimpArgs false

/-! ### spec_l5Rows: function 41 -/
def spec_l5Rows.l0 : Nat → List (S26) → Int → List Int → List Int → Option (List Int × List Int)
  | 0, _, _, _, _ => none
  | k + 1, x0, x6, x528000, x528001 => if x6 < (x0.length : Int) then (if 0 ≤ x6 then (if x528001.length + ((rd_T26 x0 x6).f1).length < 17592186044416 then (spec_l5Rows.l0 k x0 (wrap64 (x6 + 1)) x528000 (x528001 ++ ((rd_T26 x0 x6).f1))) else (none)) else (none)) else (some (x528000, x528001))
def spec_l5Rows.f (k : Nat) (l0 : List (S26)) (l1 : List Int) : Option (List Int × List Int) := (some (([(l0.length : Int)] : List Int) : List Int)).bind fun y521 => (if y521.length + l1.length < 17592186044416 then (spec_l5Rows.l0 k l0 0 (y521 ++ l1) ([] : List Int)) else (none))
theorem spec_l5Rows.mono_l : ∀ k, (∀ y0 y1 y2 y3, LeO (spec_l5Rows.l0 k y0 y1 y2 y3) (spec_l5Rows.l0 (k + 1) y0 y1 y2 y3))
  | 0 => fun _ _ _ _ r h => by simp [spec_l5Rows.l0] at h
  | k + 1 => by
    have ih0 := spec_l5Rows.mono_l k
    · intro y0 y1 y2 y3
      unfold spec_l5Rows.l0
      repeat' first
      | (with_reducible exact ih0 _ _ _ _)
      | (with_reducible exact LeO.refl _)
      | (with_reducible exact LeO.none _)
      | (with_reducible refine LeO.ite ?_ ?_)
      | (with_reducible refine LeO.bind ?_ (fun _ => ?_))
      | exact ih0 _ _ _ _
      | exact LeO.none _
      | refine LeO.ite ?_ ?_
      | refine LeO.bind ?_ (fun _ => ?_)
theorem spec_l5Rows.mono : ∀ a0 a1 k, LeO (spec_l5Rows.f k a0 a1) (spec_l5Rows.f (k + 1) a0 a1) := by
  intro a0 a1 k
  have ih0 := spec_l5Rows.mono_l k
  unfold spec_l5Rows.f
  repeat' first
      | (with_reducible exact ih0 _ _ _ _)
      | (with_reducible exact LeO.refl _)
      | (with_reducible exact LeO.none _)
      | (with_reducible refine LeO.ite ?_ ?_)
      | (with_reducible refine LeO.bind ?_ (fun _ => ?_))
      | exact ih0 _ _ _ _
      | exact LeO.none _
      | refine LeO.ite ?_ ?_
      | refine LeO.bind ?_ (fun _ => ?_)
def spec_l5Rows.T5 : Bool × List (List Nat × List Nat) := (true, [([], []), ([0], [0]), ([], []), ([], []), ([2, 3], [2, 3]), ([4], [4]), ([5], [5]), ([1, 6], [1, 6]), ([0, 1, 2, 3, 4, 5, 6, 7], []), ([8, 7, 7, 0, 1, 2, 3, 4, 5, 6, 7], [7, 8])])
def spec_l5Rows.B5 : List Nat := [0, 1, 0, 0, 12, 28, 60, 127, 255, 511]
theorem spec_l5Rows.tab5 : rtab .any (opsOf Try.f41 5) = spec_l5Rows.T5 := by kernel_rfl
theorem spec_l5Rows.bits5 : waitsOk spec_l5Rows.T5.2 spec_l5Rows.B5 = true := by kernel_rfl
set_option maxHeartbeats 8000000 in
set_option maxRecDepth 100000 in
theorem spec_l5Rows.calls (k : Nat) (A0 : Option Addr) (c0 : Nat) (l0 : List (S26)) (A1 : Option Addr) (c1 : Nat) (l1 : List Int) (r1 : List Int) (r2 : List Int) (w : World) (hr0 : Kd.C k26 w A0 l0.length l0) (hc0 : l0.length ≤ c0) (hr1 : Kd.C (Kd.int .i64) w A1 l1.length l1) (hc1 : l1.length ≤ c1) (h : spec_l5Rows.f k l0 l1 = some (r1, r2)) :
    Calls Try.prog 41 #[.slice A0 l0.length c0, .slice A1 l1.length c1] w fun e w' => ∃ v0_ v1_ : Value, e = .returned (.agg #[v0_, v1_]) ∧ Kd.R (Kd.int .i64) 3 w' w.heap.size (fun k_ => some k_ ≠ (v1_ : Value).ownBlock) v0_ r1 ∧ Kd.R (Kd.int .i64) 3 w' w.heap.size (fun k_ => some k_ ≠ (v0_ : Value).ownBlock) v1_ r2 ∧ Below w.heap.size w w' := by
  have hu26 := Try.underlying26
  have HR0 := Aside0.mk hr0
  have HC0 := Aside0.mk hc0
  clear hr0 hc0
  have HR1 := Aside0.mk hr1
  have HC1 := Aside0.mk hc1
  clear hr1 hc1
  have HB := Aside0.mk (Below.refl w.heap.size w)
  have H : ((some (([(l0.length : Int)] : List Int) : List Int)).bind fun y521 => (if y521.length + l1.length < 17592186044416 then (spec_l5Rows.l0 k l0 0 (y521 ++ l1) ([] : List Int)) else (none))) = some (r1, r2) := h
  clear h
  obtain ⟨y521, hy521⟩ : ∃ y_ : List Int, y_ = (([(l0.length : Int)] : List Int)) := ⟨_, rfl⟩
  replace H : (if y521.length + l1.length < 17592186044416 then (spec_l5Rows.l0 k l0 0 (y521 ++ l1) ([] : List Int)) else (none)) = some (r1, r2) := by first | (rw [hy521]; with_reducible exact H) | (have H2_ := (Option.bind_some _ _).symm.trans H; rw [hy521]; with_reducible exact H2_) | (have H2_ := (Option.bind_some _ _).symm.trans H; with_reducible exact H2_) | with_reducible exact H | (rw [hy521]; exact H) | exact H
  have Ny521 := Aside0.mk hy521
  clear hy521
  by_cases c3 : y521.length + l1.length < 17592186044416
  · rw [if_pos c3] at H
    have LMc3 := Aside0.mk c3
    clear c3
    obtain ⟨y524, hy524⟩ : ∃ y_ : List Int, y_ = (y521 ++ l1) := ⟨_, rfl⟩
    replace H : (spec_l5Rows.l0 k l0 0 y524 ([] : List Int)) = some (r1, r2) := by first | (rw [hy524]; with_reducible exact H) | (have H2_ := (Option.bind_some _ _).symm.trans H; rw [hy524]; with_reducible exact H2_) | (have H2_ := (Option.bind_some _ _).symm.trans H; with_reducible exact H2_) | with_reducible exact H | (rw [hy524]; exact H) | exact H
    have Ny524 := Aside0.mk hy524
    clear hy524
    have H' := Aside0.mk H
    clear H
    go_enter Try.func41, Try.ntmps41
    go_wp2_with (first | ((with_reducible refine gate_dst (N := 4) rfl ?_); refine box_event ?hg (N := 4) ?hd (cs := #[.slice none 0 0, .slice none 0 0]) (t := 26) ?hr ?_; (case hd => rfl); (case hg => rfl); (case hr => first | (go_simp; done) | (go_simp; rfl)); intro gb520 hg w4 hbox hb; have n0_ := Aside0.mk (below_step (by repeat (first | (with_reducible first | exact HB.out | apply below_alloc | apply pw_below_drewN | apply below_drew1) | exact HB.out)) hb); have n1_ := Aside0.mk (hbox); have n2_ := Aside0.mk ((by rw [hg]; exact (below_size (by repeat (first | (with_reducible first | exact HB.out | apply below_alloc | apply pw_below_drewN | apply below_drew1) | exact HB.out))) : w.heap.size ≤ gb520)); have n3_ := Aside0.mk ((by rw [hg]; exact (below_size (by repeat (first | (with_reducible first | exact HB.out | apply below_alloc | apply pw_below_drewN | apply below_drew1) | exact HB.out))) : w.heap.size ≤ gb520)); clear HB; have HB := n0_; have BK520 := n1_; have GW520 := n2_; have GE520 := n3_; clear n0_ n1_ n2_ n3_; clear hb hbox hg) | ((with_reducible refine gate_dst (N := 9) rfl ?_); refine Kd.R_lit (Kd.int .i64) _ 3 ?hg (N := 9) ?hd (xs := ([(l0.length : Int)] : List Int)) (inner := [.int .i64 (l0.length : Int)]) (ok := fun _ => True) (okp := fun _ => True) ?hr ?hp (fun _ hk => hk) trivial (Below.refl _ _) (Nat.le_refl _) (by simp) ?_; (case hd => rfl); (case hg => rfl); (case hr => first | (go_simp; done) | (go_simp; rfl)); (case hp => exact (Reps.one (show Kd.M (Kd.int .i64) _ _ _ (l0.length : Int) [.int .i64 (l0.length : Int)] from rfl) (Reps.none _ _))); intro v522 w5 ho6 hb hg_ hnew_; clear hg_ hnew_; (first | rw [← Ny521.out] at ho6 | (simp only [Int.reduceToNat] at ho6; rw [← Ny521.out] at ho6)); have n0_ := Aside0.mk (Kd.R_lower ho6 (below_size (by repeat (first | (with_reducible first | exact HB.out | apply below_alloc | apply pw_below_drewN | apply below_drew1 | refine below_set ?_ GE520.out) | exact HB.out)))); have n1_ := Aside0.mk (blk_below (g := gb520) (o := .cells #[.slice none 0 0, .slice none 0 0] 26 (0, 0)) (by (with_reducible repeat (first | refine blk_drewN ?_ _ | refine blk_drew ?_ | refine blk_alloc ?_ _)); exact BK520.out) hb); have n2_ := Aside0.mk (below_step (by repeat (first | (with_reducible first | exact HB.out | apply below_alloc | apply pw_below_drewN | apply below_drew1 | refine below_set ?_ GE520.out) | exact HB.out)) hb); clear BK520; clear HB; have HO523 := n0_; have BK520 := n1_; have HB := n2_; clear n0_ n1_ n2_; clear hb ho6) | ((with_reducible refine gate_builtin (b := .append) (xs := #[.tmp 9, .tmp 10]) rfl ?_); at_builtin; refine Kd.R_append_rows (Kd.int .i64) (w0 := w) w.heap.size rfl (.tmp 9) (.tmp 10) 22 3 (.int .i64 0) 8 rfl Try.underlying22 info3 rfl (by decide) (by omega) v522 y521 l1 _ _ _ (fun _ => True) (fun _ => False) rfl rfl ?aO ?aR (fun _ _ h => h) (fun _ h => h.elim) ?aF ?aB ?aS ?aL ?_; (case aR => repeat (first | exact (Kd.C_below HR1.out HB.out) | (with_reducible refine Kd.C_alloc ?_ _) | (with_reducible refine Kd.C_drewN ?_ _) | (with_reducible refine Kd.C_drew ?_))); (case aB => exact (by repeat (first | (with_reducible first | exact HB.out | apply below_alloc | apply pw_below_drewN | apply below_drew1 | refine below_set ?_ GE520.out) | exact HB.out))); (case aF => exact (fun _ _ => trivial)); (case aO => exact (by (with_reducible repeat (first | apply Kd.R_alloc | apply Kd.R_drewN | apply Kd.R_drew)); exact HO523.out)); (case aS => exact (below_size (by repeat (first | (with_reducible first | exact HB.out | apply below_alloc | apply pw_below_drewN | apply below_drew1 | refine below_set ?_ GE520.out) | exact HB.out)))); (case aL => have := LMc3.out; omega); intro v525 w7 ho hb hg hat; rw [← Ny524.out] at ho; have n0_ := Aside0.mk (blk_grown (g := gb520) (o := .cells #[.slice none 0 0, .slice none 0 0] 26 (0, 0)) (by (with_reducible repeat (first | refine blk_drewN ?_ _ | refine blk_drew ?_ | refine blk_alloc ?_ _)); exact BK520.out) hg (Kd.R_ne HO523.out BK520.out (by decide))); have n1_ := Aside0.mk (hb); have n2_ := Aside0.mk (ho); clear BK520; clear HB; clear HO523; have BK520 := n0_; have HB := n1_; have HO526 := n2_; clear n0_ n1_ n2_; clear ho hb hg hat; obtain ⟨Ao8, co8, eo8⟩ := Kd.R_slice HO526.out; subst eo8) | ((with_reducible refine gate_dst (N := 5) rfl ?_); refine box_event ?hg (N := 5) ?hd (cs := #[.slice none 0 0, .slice none 0 0]) (t := 26) ?hr ?_; (case hd => rfl); (case hg => rfl); (case hr => first | (go_simp; done) | (go_simp; rfl)); intro gb527 hg w9 hbox hb; have n0_ := Aside0.mk (Kd.R_below (by (with_reducible repeat (first | apply Kd.R_alloc | apply Kd.R_drewN | apply Kd.R_drew)); exact HO526.out) hb); have n1_ := Aside0.mk (blk_below (g := gb520) (o := .cells #[.slice none 0 0, .slice none 0 0] 26 (0, 0)) (by (with_reducible repeat (first | refine blk_drewN ?_ _ | refine blk_drew ?_ | refine blk_alloc ?_ _)); exact BK520.out) hb); have n2_ := Aside0.mk (below_step (by repeat (first | (with_reducible first | exact HB.out | apply below_alloc | apply pw_below_drewN | apply below_drew1 | refine below_set ?_ GE520.out) | exact HB.out)) hb); have n3_ := Aside0.mk (hbox); have n4_ := Aside0.mk ((by rw [hg]; exact (below_size (by repeat (first | (with_reducible first | exact HB.out | apply below_alloc | apply pw_below_drewN | apply below_drew1 | refine below_set ?_ GE520.out) | exact HB.out))) : w.heap.size ≤ gb527)); have n5_ := Aside0.mk ((by rw [hg]; exact (below_size (by repeat (first | (with_reducible first | exact HB.out | apply below_alloc | apply pw_below_drewN | apply below_drew1 | refine below_set ?_ GE520.out) | exact HB.out))) : w.heap.size ≤ gb527)); have n6_ := Aside0.mk ((by rw [hg]; exact Nat.ne_of_lt (blk_lt (g := gb520) (o := .cells #[.slice none 0 0, .slice none 0 0] 26 (0, 0)) (by (with_reducible repeat (first | refine blk_drewN ?_ _ | refine blk_drew ?_ | refine blk_alloc ?_ _)); exact BK520.out)) : gb520 ≠ gb527)); have n7_ := Aside0.mk ((by rw [hg]; exact Nat.ne_of_gt (blk_lt (g := gb520) (o := .cells #[.slice none 0 0, .slice none 0 0] 26 (0, 0)) (by (with_reducible repeat (first | refine blk_drewN ?_ _ | refine blk_drew ?_ | refine blk_alloc ?_ _)); exact BK520.out)) : gb527 ≠ gb520)); clear HO526; clear BK520; clear HB; have HO526 := n0_; have BK520 := n1_; have HB := n2_; have BK527 := n3_; have GW527 := n4_; have GE527 := n5_; have NB520_527 := n6_; have NB527_520 := n7_; clear n0_ n1_ n2_ n3_ n4_ n5_ n6_ n7_; clear hb hbox hg; have hnb10 := NB527_520.out; have hnc10 := NB520_527.out; have hcz11_0 : w9.cell? ⟨gb527, 0, none⟩ = some (.slice none 0 0) := (blk_cell BK527.out 0).trans rfl; have hcz11_1 : w9.cell? ⟨gb527, 1, none⟩ = some (.slice none 0 0) := (blk_cell BK527.out 1).trans rfl; have hfz11_0 := blk_frozen BK527.out 0; have hfz11_1 := blk_frozen BK527.out 1))
    go_loopg [6] k (fun kq v6 w' => ∃ (x6_1 : Int) (x528001_1 : List Int) (u528001 : Value), v6 = .int .i64 x6_1 ∧ Aside0 (spec_l5Rows.l0 kq l0 x6_1 y524 x528001_1 = some (r1, r2)) ∧ Aside0 (kq ≤ k) ∧ Aside0 (Kd.R (Kd.int .i64) 3 w' w.heap.size (fun k_ => some k_ ≠ (u528001 : Value).ownBlock) (.slice Ao8 y524.length co8) y524) ∧ Aside0 (Kd.R (Kd.int .i64) 3 w' w.heap.size (fun k_ => some k_ ≠ ((.slice Ao8 y524.length co8) : Value).ownBlock) u528001 x528001_1) ∧ Aside0 (w'.heap[gb520]? = some (.cells #[(.slice none 0 0), (.slice none 0 0)] 26 (0, 0))) ∧ Aside0 (w'.heap[gb527]? = some (.cells #[(.slice Ao8 y524.length co8), u528001] 26 (0, 0))) ∧ Aside0 (Below w.heap.size w w'))
    case atStart => exact ⟨(0), (([] : List Int)), (.slice none 0 0), (by first | rfl | (simp; done) | (simp [*]; done)), H', ⟨Nat.le_refl _⟩, ⟨by (with_reducible repeat (first | apply Kd.R_alloc | apply Kd.R_drewN | apply Kd.R_drew)); exact Kd.R_mono (Kd.R_far (p := ⟨gb527, 1, none⟩) (Kd.R_far (p := ⟨gb527, 0, none⟩) (Kd.R_types HO526.out BK527.out (by decide)) (fun _ hk => hk.2) (.slice Ao8 y524.length co8)) (fun _ hk => hk.2) (.slice none 0 0)) (fun _ hk => (by simp [Value.ownBlock]))⟩, ⟨by first | exact Kd.R_nil _ _ _ _ _ | exact Kd.N_nil _ _ _ _ _ | exact Kd.V_nil _ _ _ _ _ | exact Kd.Q_nil _ _ _ _ _ | exact Kd.S_nil _ _ _ _ _⟩, ⟨by (with_reducible repeat (first | refine blk_drewN ?_ _ | refine blk_drew ?_ | refine blk_alloc ?_ _)); refine blk_far ?_ NB520_527.out _; (with_reducible repeat (first | refine blk_drewN ?_ _ | refine blk_drew ?_ | refine blk_alloc ?_ _)); refine blk_far ?_ NB520_527.out _; (with_reducible repeat (first | refine blk_drewN ?_ _ | refine blk_drew ?_ | refine blk_alloc ?_ _)); exact BK520.out⟩, ⟨by (with_reducible repeat (first | refine blk_drewN ?_ _ | refine blk_drew ?_ | refine blk_alloc ?_ _)); refine blk_put (cs := #[.slice Ao8 y524.length co8, .slice none 0 0]) ?_ 1 _ rfl; (with_reducible repeat (first | refine blk_drewN ?_ _ | refine blk_drew ?_ | refine blk_alloc ?_ _)); refine blk_put (cs := #[.slice none 0 0, .slice none 0 0]) ?_ 0 _ rfl; (with_reducible repeat (first | refine blk_drewN ?_ _ | refine blk_drew ?_ | refine blk_alloc ?_ _)); exact BK527.out⟩, ⟨by repeat (first | (with_reducible first | exact HB.out | apply below_alloc | apply pw_below_drewN | apply below_drew1 | refine below_set ?_ GE520.out | refine below_set ?_ GE527.out) | exact HB.out)⟩⟩
    case round =>
      clear H'
      try clear c1
      try clear p2
      try clear c3
      try clear c4
      try clear c10
      try clear hcz11_0
      try clear hcz11_1
      try clear hfz11_0
      try clear hfz11_1
      obtain ⟨x6_1, x528001_1, u528001, rfl, HA, HK1, HO_528000, HO_528001, BK520, BK527, HB⟩ := hrel
      cases gk with
      | zero => exact absurd HA.out (by simp [spec_l5Rows.l0])
      | succ k1 =>
        have H := HA.out
        clear HA
        simp only [spec_l5Rows.l0] at H
        by_cases c12 : x6_1 < (l0.length : Int)
        · rw [if_pos c12] at H
          have c12b0 : decide (x6_1 < (l0.length : Int)) = true := decide_eq_true c12
          clear c12
          by_cases c13 : 0 ≤ x6_1
          · rw [if_pos c13] at H
            have c13b0 : decide (0 ≤ x6_1) = true := decide_eq_true c13
            clear c13
            by_cases c14 : x528001_1.length + ((rd_T26 l0 x6_1).f1).length < 17592186044416
            · rw [if_pos c14] at H
              have LMc14 := Aside0.mk c14
              clear c14
              obtain ⟨y529, hy529⟩ : ∃ y_ : List Int, y_ = (x528001_1 ++ ((rd_T26 l0 x6_1).f1)) := ⟨_, rfl⟩
              replace H : (spec_l5Rows.l0 k1 l0 (wrap64 (x6_1 + 1)) y524 y529) = some (r1, r2) := by first | (rw [hy529]; with_reducible exact H) | (have H2_ := (Option.bind_some _ _).symm.trans H; rw [hy529]; with_reducible exact H2_) | (have H2_ := (Option.bind_some _ _).symm.trans H; with_reducible exact H2_) | with_reducible exact H | (rw [hy529]; exact H) | exact H
              have Ny529 := Aside0.mk hy529
              clear hy529
              have H' := Aside0.mk H
              clear H
              try go_wp2
              have n0_ := Aside0.mk (Kd.R_drew HO_528000.out)
              have n1_ := Aside0.mk (Kd.R_drew HO_528001.out)
              have n2_ := Aside0.mk (blk_drew BK520.out)
              have n3_ := Aside0.mk (blk_drew BK527.out)
              have n4_ := Aside0.mk (below_drew1 HB.out)
              clear HO_528000
              clear HO_528001
              clear BK520
              clear BK527
              clear HB
              have HO_528000 := n0_
              have HO_528001 := n1_
              have BK520 := n2_
              have BK527 := n3_
              have HB := n4_
              clear n0_ n1_ n2_ n3_ n4_
              have p528 : 0 ≤ (x6_1 : Int) := of_decide_eq_true (by first | (with_reducible assumption) | assumption)
              have q528 : x6_1 < (l0.length : Int) := of_decide_eq_true (by first | (with_reducible assumption) | assumption)
              obtain ⟨ad528, A528_0, c528_0, A528_1, c528_1, e528, hx528_0, hx528_1, hl528_0, hi528_0, hl528_1, hi528_1⟩ := at_T26 HR0.out x6_1 p528 q528
              have hw528_1 := hx528_1
              have hw528_0 := hx528_0
              cases e528
              replace hx528_0 := (HB.out.cell (World.block_lt_of_cell? w _ hx528_0)).trans hx528_0
              replace hx528_1 := (HB.out.cell (World.block_lt_of_cell? w _ hx528_1)).trans hx528_1
              have HR528_0 := Aside0.mk hi528_0
              have HC528_0 := Aside0.mk hl528_0
              clear hi528_0 hl528_0
              have HR528_1 := Aside0.mk hi528_1
              have HC528_1 := Aside0.mk hl528_1
              clear hi528_1 hl528_1
              replace p528 := eq_true p528
              replace q528 := eq_true q528
              refine start_ (n := 10) (S := fun w' => w'.cell? ⟨gb527, 0, none⟩ = some (.slice Ao8 y524.length co8) ∧ w'.cell? ⟨gb527, 1, none⟩ = some (u528001) ∧ w'.cell? (ad528.add ((x6_1).toNat * 2)) = some (.slice A528_0 ((rd_T26 l0 x6_1).f0).length c528_0) ∧ w'.cell? ⟨(ad528.add ((x6_1).toNat * 2)).block, (ad528.add ((x6_1).toNat * 2)).off + 1, none⟩ = some (.slice A528_1 ((rd_T26 l0 x6_1).f1).length c528_1)) (ds := [9]) #[false, false, false, false, false, false, false, false, false, false] (by kernel_rfl) rfl rfl ⟨(blk_cell BK527.out 0).trans rfl, (blk_cell BK527.out 1).trans rfl, ((HB.out.cell (World.block_lt_of_cell? w _ hw528_0)).trans hw528_0), ((HB.out.cell (World.block_lt_of_cell? w _ hw528_1)).trans hw528_1)⟩ (fun hHeld => ?_); refine with_tabW spec_l5Rows.tab5 spec_l5Rows.bits5 (fun HT_ HW_ => ?_)
              generalize wr.drew = w15 at HO_528000 HO_528001 BK520 BK527 HB HR528_0 HR528_1 hx528_0 hx528_1 hHeld ⊢
              refine pure_ (i := 0) (N := some 19) (v := ?_) (a' := ?_) #[true, false, false, false, false, false, false, false, false, false] rfl rfl (any_of HT_.out (by kernel_rfl)) (fun _ _ _ h => h) (Or.inl ⟨by rfl, ?_⟩) ?_ ?_
              rotate_left
              · intro w'
                go_simp
                with_reducible rfl
              rotate_left
              · simp only [Act.put, List.setIfInBounds_toArray, List.set_cons_zero, List.set_cons_succ, i64_w, i32_w]
                rfl
              refine pure_ (i := 2) (N := some 21) (v := ?_) (a' := ?_) #[true, false, true, false, false, false, false, false, false, false] rfl rfl (any_of HT_.out (by kernel_rfl)) (fun _ _ _ h => h) (Or.inl ⟨by rfl, ?_⟩) ?_ ?_
              rotate_left
              · intro w'
                go_simp
                with_reducible rfl
              rotate_left
              · simp only [Act.put, List.setIfInBounds_toArray, List.set_cons_zero, List.set_cons_succ, i64_w, i32_w]
                rfl
              refine pure_ (i := 3) (N := some 22) (v := ?_) (a' := ?_) #[true, false, true, true, false, false, false, false, false, false] rfl rfl (any_of HT_.out (by kernel_rfl)) (fun _ _ _ h => h) (Or.inl ⟨by rfl, ?_⟩) ?_ ?_
              rotate_left
              · intro w'
                go_simp
                with_reducible rfl
              rotate_left
              · simp only [Act.put, List.setIfInBounds_toArray, List.set_cons_zero, List.set_cons_succ, i64_w, i32_w]
                rfl
              refine pure_ (i := 4) (N := some 23) (v := ?_) (a' := ?_) #[true, false, true, true, true, false, false, false, false, false] rfl rfl (any_of HT_.out (by kernel_rfl)) (fun _ _ _ h => h) (Or.inl ⟨by rfl, ?_⟩) ?_ ?_
              rotate_left
              · intro w'
                go_simp
                with_reducible rfl
              rotate_left
              · simp only [Act.put, List.setIfInBounds_toArray, List.set_cons_zero, List.set_cons_succ, i64_w, i32_w]
                rfl
              refine pure_ (i := 5) (N := some 24) (v := ?_) (a' := ?_) #[true, false, true, true, true, true, false, false, false, false] rfl rfl (any_of HT_.out (by kernel_rfl)) (fun _ _ _ h => h) (Or.inl ⟨by rfl, ?_⟩) ?_ ?_
              rotate_left
              · intro w'
                go_simp
                with_reducible rfl
              rotate_left
              · simp only [Act.put, List.setIfInBounds_toArray, List.set_cons_zero, List.set_cons_succ, i64_w, i32_w]
                rfl
              refine take_ (i := 1) (N := some 20) (v := ?_) (a' := ?_) #[true, true, true, true, true, true, false, false, false, false] rfl rfl (take_ofW HT_.out HW_.out (by kernel_rfl)) (fun _ _ _ h => h) (Or.inl ⟨by rfl, ?_⟩) hHeld ?_ ?_
              rotate_left
              · rintro w' ⟨s0, s1, s2, s3⟩
                go_simp
                with_reducible rfl
              rotate_left
              · simp only [Act.put, List.setIfInBounds_toArray, List.set_cons_zero, List.set_cons_succ, i64_w, i32_w]
                rfl
              refine take_ (i := 6) (N := some 25) (v := ?_) (a' := ?_) #[true, true, true, true, true, true, true, false, false, false] rfl rfl (take_ofW HT_.out HW_.out (by kernel_rfl)) (fun _ _ _ h => h) (Or.inl ⟨by rfl, ?_⟩) hHeld ?_ ?_
              rotate_left
              · rintro w' ⟨s0, s1, s2, s3⟩
                go_simp
                with_reducible rfl
              rotate_left
              · simp only [Act.put, List.setIfInBounds_toArray, List.set_cons_zero, List.set_cons_succ, i64_w, i32_w]
                rfl
              refine one_ (i := 7) (N := some 26) #[true, true, true, true, true, true, true, true, false, false] rfl rfl (one_of HT_.out (by kernel_rfl)) (by decide) (fun K hK => ?_)
              refine Kd.R_append_rows_step (Kd.int .i64) (w0 := w) w.heap.size (by rfl) (.tmp 20) (.tmp 25) 22 3 (.int .i64 0) 8 rfl Try.underlying22 info3 rfl (by decide) (by omega) u528001 x528001_1 ((rd_T26 l0 x6_1).f1) _ _ _ (fun k_ => some k_ ≠ (.slice Ao8 y524.length co8 : Value).ownBlock) (fun _ => False) rfl rfl ?aO ?aR (fun _ _ h => h) (fun _ h => h.elim) ?aF ?aB ?aS ?aL ?_
              (case aR => repeat (first | exact (Kd.C_below HR528_1.out HB.out) | (with_reducible refine Kd.C_alloc ?_ _) | (with_reducible refine Kd.C_drewN ?_ _) | (with_reducible refine Kd.C_drew ?_)))
              (case aB => exact (by repeat (first | (with_reducible first | exact HB.out | apply below_alloc | apply pw_below_drewN | apply below_drew1 | refine below_set ?_ GE520.out | refine below_set ?_ GE527.out) | exact HB.out)))
              (case aF => exact (fun k_ hk => Kd.fresh' (Kd.R_lt (by (with_reducible repeat (first | apply Kd.R_alloc | apply Kd.R_drewN | apply Kd.R_drew)); exact HO_528000.out)) k_ hk))
              (case aO => exact (by (with_reducible repeat (first | apply Kd.R_alloc | apply Kd.R_drewN | apply Kd.R_drew)); exact HO_528001.out))
              (case aS => exact (below_size (by repeat (first | (with_reducible first | exact HB.out | apply below_alloc | apply pw_below_drewN | apply below_drew1 | refine below_set ?_ GE520.out | refine below_set ?_ GE527.out) | exact HB.out))))
              (case aL => have := LMc14.out; omega)
              intro v530 w16 ho hb hg hat
              rw [← Ny529.out] at ho
              have n0_ := Aside0.mk (Kd.R_after (ok := (fun _ => True)) (by (with_reducible repeat (first | apply Kd.R_alloc | apply Kd.R_drewN | apply Kd.R_drew)); exact Kd.R_mono HO_528000.out (fun _ hk => ⟨trivial, hk⟩)) hg hat)
              have n1_ := Aside0.mk (blk_grown (g := gb520) (o := .cells #[.slice none 0 0, .slice none 0 0] 26 (0, 0)) (by (with_reducible repeat (first | refine blk_drewN ?_ _ | refine blk_drew ?_ | refine blk_alloc ?_ _)); exact BK520.out) hg (Kd.R_ne HO_528001.out BK520.out (by decide)))
              have n2_ := Aside0.mk (blk_grown (g := gb527) (o := .cells #[.slice Ao8 y524.length co8, u528001] 26 (0, 0)) (by (with_reducible repeat (first | refine blk_drewN ?_ _ | refine blk_drew ?_ | refine blk_alloc ?_ _)); exact BK527.out) hg (Kd.R_ne HO_528001.out BK527.out (by decide)))
              have n3_ := Aside0.mk (hb)
              have n4_ := Aside0.mk (ho)
              clear HO_528000
              clear BK520
              clear BK527
              clear HB
              clear HO_528001
              have HO_528000 := n0_
              have BK520 := n1_
              have BK527 := n2_
              have HB := n3_
              have HO531 := n4_
              clear n0_ n1_ n2_ n3_ n4_
              clear ho hb hg hat
              obtain ⟨Ao17, co17, eo17⟩ := Kd.R_slice HO531.out
              (first | subst eo17 | (injection eo17 with f1_ f2_ f3_; have f4_ := f1_.symm; have f5_ := f3_.symm; clear f1_ f2_ f3_; subst f4_; subst f5_))
              refine hK.out _ _ ⟨(blk_cell BK527.out 0).trans rfl, (blk_cell BK527.out 1).trans rfl, ((HB.out.cell (World.block_lt_of_cell? w _ hw528_0)).trans hw528_0), ((HB.out.cell (World.block_lt_of_cell? w _ hw528_1)).trans hw528_1)⟩ (fun hHeld => ?_)
              clear hK K
              refine norm_ (a' := ?_) ?_ ?_
              rotate_left
              · show Act.put _ (some 26) _ = _
                simp only [Act.put, List.setIfInBounds_toArray, List.set_cons_zero, List.set_cons_succ, i64_w, i32_w]
                rfl
              refine pure_ (i := 8) (N := some 27) (v := ?_) (a' := ?_) #[true, true, true, true, true, true, true, true, true, false] rfl rfl (any_of HT_.out (by kernel_rfl)) (fun _ _ _ h => h) (Or.inl ⟨by rfl, ?_⟩) ?_ ?_
              rotate_left
              · intro w'
                go_simp
                with_reducible rfl
              rotate_left
              · simp only [Act.put, List.setIfInBounds_toArray, List.set_cons_zero, List.set_cons_succ, i64_w, i32_w]
                rfl
              refine last_ (i := 9) (N := none) #[true, true, true, true, true, true, true, true, true, true] rfl rfl (one_of HT_.out (by kernel_rfl)) (by decide) (fun K hK => ?_)
              have hs18 : w16.cell? ⟨gb527, 1, none⟩ = some (u528001) := (blk_cell BK527.out 1).trans rfl
              have hfs18 := blk_frozen BK527.out 1
              have hns18_0 := NB520_527.out
              have hms18_0 := NB527_520.out
              refine skip_ (w1 := ?_) (by rfl) rfl ?_ ?_
              rotate_left
              · go_simp
                rfl
              refine hK.out _ _ ?_
              clear hK K
              refine done_ (done_of HT_.out (by kernel_rfl)) ?_
              try go_wp2
              go_roundg k1
              case measure => have := HK1.out; omega
              case rel => exact ⟨(wrap64 (x6_1 + 1)), (y529), (.slice Ao17 y529.length co17), (by first | rfl | (simp; done) | (simp [*]; done)), H', ⟨by have := HK1.out; omega⟩, ⟨by (with_reducible repeat (first | apply Kd.R_alloc | apply Kd.R_drewN | apply Kd.R_drew)); exact Kd.R_mono (Kd.R_far (p := ⟨gb527, 1, none⟩) (Kd.R_types HO_528000.out BK527.out (by decide)) (fun _ hk => hk.2) (.slice Ao17 y529.length co17)) (fun _ hk => hk.1.2)⟩, ⟨by (with_reducible repeat (first | apply Kd.R_alloc | apply Kd.R_drewN | apply Kd.R_drew)); exact Kd.R_mono (Kd.R_far (p := ⟨gb527, 1, none⟩) (Kd.R_types HO531.out BK527.out (by decide)) (fun _ hk => hk.2) (.slice Ao17 y529.length co17)) (fun _ hk => hk.1)⟩, ⟨by (with_reducible repeat (first | refine blk_drewN ?_ _ | refine blk_drew ?_ | refine blk_alloc ?_ _)); refine blk_far ?_ NB520_527.out _; (with_reducible repeat (first | refine blk_drewN ?_ _ | refine blk_drew ?_ | refine blk_alloc ?_ _)); exact BK520.out⟩, ⟨by (with_reducible repeat (first | refine blk_drewN ?_ _ | refine blk_drew ?_ | refine blk_alloc ?_ _)); refine blk_put (cs := #[.slice Ao8 y524.length co8, u528001]) ?_ 1 _ rfl; (with_reducible repeat (first | refine blk_drewN ?_ _ | refine blk_drew ?_ | refine blk_alloc ?_ _)); exact BK527.out⟩, ⟨by repeat (first | (with_reducible first | exact HB.out | apply below_alloc | apply pw_below_drewN | apply below_drew1 | refine below_set ?_ GE520.out | refine below_set ?_ GE527.out) | exact HB.out)⟩⟩
            · rw [if_neg c14] at H
              exact absurd H (by simp)
          · rw [if_neg c13] at H
            exact absurd H (by simp)
        · rw [if_neg c12] at H
          have c12b0 : decide (x6_1 < (l0.length : Int)) = false := decide_eq_false c12
          clear c12
          simp only [Option.some.injEq, Prod.mk.injEq] at H
          obtain ⟨rfl, rfl⟩ := H
          have hnb19 := NB527_520.out
          have hnc19 := NB520_527.out
          have hcz20_0 : wr.cell? ⟨gb527, 0, none⟩ = some (.slice Ao8 y524.length co8) := (blk_cell BK527.out 0).trans rfl
          have hcz20_1 : wr.cell? ⟨gb527, 1, none⟩ = some (u528001) := (blk_cell BK527.out 1).trans rfl
          have hfz20_0 := blk_frozen BK527.out 0
          have hfz20_1 := blk_frozen BK527.out 1
          have hcz21_0 : wr.cell? ⟨gb520, 0, none⟩ = some (.slice none 0 0) := (blk_cell BK520.out 0).trans rfl
          have hcz21_1 : wr.cell? ⟨gb520, 1, none⟩ = some (.slice none 0 0) := (blk_cell BK520.out 1).trans rfl
          have hfz21_0 := blk_frozen BK520.out 0
          have hfz21_1 := blk_frozen BK520.out 1
          obtain ⟨Ao22, co22, eo22⟩ := Kd.R_slice HO_528001.out
          subst eo22
          go_wp2
          refine bodyPost_ret (results_cell_row rfl _ _ gb520 26 #[.slice Ao8 y524.length co8, .slice Ao22 x528001_1.length co22] (0, 0) _ rfl (by (with_reducible repeat (first | refine blk_drewN ?_ _ | refine blk_drew ?_ | refine blk_alloc ?_ _)); refine blk_put (cs := #[.slice Ao8 y524.length co8, .slice none 0 0]) ?_ 1 _ rfl; (with_reducible repeat (first | refine blk_drewN ?_ _ | refine blk_drew ?_ | refine blk_alloc ?_ _)); refine blk_put (cs := #[.slice none 0 0, .slice none 0 0]) ?_ 0 _ rfl; (with_reducible repeat (first | refine blk_drewN ?_ _ | refine blk_drew ?_ | refine blk_alloc ?_ _)); exact BK520.out) Try.underlying26 rfl (by kernel_rfl)) rfl ?_
          exact ⟨_, _, by first | rfl | (simp [errW_none, errW_some] <;> rfl) | (simp [*, errW_none, errW_some] <;> rfl), by (with_reducible repeat (first | apply Kd.R_alloc | apply Kd.R_drewN | apply Kd.R_drew)); exact Kd.R_mono (Kd.R_far (p := ⟨gb520, 1, none⟩) (Kd.R_far (p := ⟨gb520, 0, none⟩) (Kd.R_types HO_528000.out BK520.out (by decide)) (fun _ hk => hk.2) (.slice Ao8 y524.length co8)) (fun _ hk => hk.2) (.slice Ao22 x528001_1.length co22)) (fun _ hk => hk.1), by (with_reducible repeat (first | apply Kd.R_alloc | apply Kd.R_drewN | apply Kd.R_drew)); exact Kd.R_mono (Kd.R_far (p := ⟨gb520, 1, none⟩) (Kd.R_far (p := ⟨gb520, 0, none⟩) (Kd.R_types HO_528001.out BK520.out (by decide)) (fun _ hk => hk.2) (.slice Ao8 y524.length co8)) (fun _ hk => hk.2) (.slice Ao22 x528001_1.length co22)) (fun _ hk => hk.1), by repeat (first | (with_reducible first | exact HB.out | apply below_alloc | apply pw_below_drewN | apply below_drew1 | refine below_set ?_ GE520.out | refine below_set ?_ GE527.out) | exact HB.out)⟩
  · rw [if_neg c3] at H
    exact absurd H (by simp)

/-! ### spec_Rotate: function 15 -/
mutual
def spec_Rotate.j0 : Nat → Bool → List Int → List Int → List Int → List Int → Option (List Int × List Int × Int)
  | 0, _, _, _, _, _ => none
  | k + 1, x11, x533000, x533001, x534000, x534001 => if x11 = true then (some (([] : List Int), ([] : List Int), 1)) else (if (x533001.length : Int) = 1 then (if (x534000.length : Int) = 0 then ((spec_l3Copy.f x534000 x534001).bind fun bt537 => (some (bt537.1, bt537.2, 0))) else (if 0 < (x534000.length : Int) then (if (rd x534000 0) = 0 then ((spec_l3Copy.f x534000 x534001).bind fun bt544 => (some (bt544.1, bt544.2, 0))) else ((spec_l3Rows.f k x534000 x534001).bind fun t550 => (if 0 < (x533001.length : Int) then (if (t550.length : Int) = 0 then (none) else (spec_Rotate.l0 k t550 (t550.length : Int) (Int.tmod (wrap64 ((Int.tmod (rd x533001 0) (t550.length : Int)) + (t550.length : Int))) (t550.length : Int)) (([] : List (S26))) 0 x534000 x534001)) else (none)))) else (none))) else (some (([] : List Int), ([] : List Int), 3)))
def spec_Rotate.l0 : Nat → List (S26) → Int → Int → List (S26) → Int → List Int → List Int → Option (List Int × List Int × Int)
  | 0, _, _, _, _, _, _, _ => none
  | k + 1, x6, x7, x8, x9, x10, x534000, x534001 => if x10 < x7 then (if x7 = 0 then (none) else (if 0 ≤ (Int.tmod (wrap64 (x10 + x8)) x7) then (if (Int.tmod (wrap64 (x10 + x8)) x7) < (x6.length : Int) then (if x9.length < 2932031007402 then (spec_Rotate.l0 k x6 x7 x8 (x9 ++ [(⟨(rd_T26 x6 (Int.tmod (wrap64 (x10 + x8)) x7)).f0, (rd_T26 x6 (Int.tmod (wrap64 (x10 + x8)) x7)).f1⟩ : S26)]) (wrap64 (x10 + 1)) x534000 x534001) else (none)) else (none)) else (none))) else (if 1 ≤ (x534000.length : Int) then ((spec_l5Rows.f k x9 (x534000.drop 1)).bind fun bt562 => (some (bt562.1, bt562.2, 0))) else (none))
end
def spec_Rotate.f (k : Nat) (l0_0 : List Int) (l0_1 : List Int) (l1_0 : List Int) (l1_1 : List Int) : Option (List Int × List Int × Int) := (spec_ArrayOk.f k l0_0 l0_1).bind fun t535 => (if t535 = true then ((spec_ArrayOk.f k l1_0 l1_1).bind fun t536 => (spec_Rotate.j0 k (!t536) l0_0 l0_1 l1_0 l1_1)) else (spec_Rotate.j0 k true l0_0 l0_1 l1_0 l1_1))
theorem spec_Rotate.mono_l : ∀ k, (∀ y0 y1 y2 y3 y4, LeO (spec_Rotate.j0 k y0 y1 y2 y3 y4) (spec_Rotate.j0 (k + 1) y0 y1 y2 y3 y4)) ∧ (∀ y0 y1 y2 y3 y4 y5 y6, LeO (spec_Rotate.l0 k y0 y1 y2 y3 y4 y5 y6) (spec_Rotate.l0 (k + 1) y0 y1 y2 y3 y4 y5 y6))
  | 0 => ⟨fun _ _ _ _ _ r h => by simp [spec_Rotate.j0] at h, fun _ _ _ _ _ _ _ r h => by simp [spec_Rotate.l0] at h⟩
  | k + 1 => by
    obtain ⟨ih0, ih1⟩ := spec_Rotate.mono_l k
    refine ⟨?_, ?_⟩
    · intro y0 y1 y2 y3 y4
      unfold spec_Rotate.j0
      repeat' first
      | (with_reducible exact ih0 _ _ _ _ _)
      | (with_reducible exact ih1 _ _ _ _ _ _ _)
      | (with_reducible exact spec_ArrayOk.mono _ _ _)
      | (with_reducible exact spec_l3Rows.mono _ _ _)
      | (with_reducible exact spec_l5Rows.mono _ _ _)
      | (with_reducible exact LeO.refl _)
      | (with_reducible exact LeO.none _)
      | (with_reducible refine LeO.ite ?_ ?_)
      | (with_reducible refine LeO.bind ?_ (fun _ => ?_))
      | exact ih0 _ _ _ _ _
      | exact ih1 _ _ _ _ _ _ _
      | exact spec_ArrayOk.mono _ _ _
      | exact spec_l3Rows.mono _ _ _
      | exact spec_l5Rows.mono _ _ _
      | exact LeO.none _
      | refine LeO.ite ?_ ?_
      | refine LeO.bind ?_ (fun _ => ?_)
    · intro y0 y1 y2 y3 y4 y5 y6
      unfold spec_Rotate.l0
      repeat' first
      | (with_reducible exact ih0 _ _ _ _ _)
      | (with_reducible exact ih1 _ _ _ _ _ _ _)
      | (with_reducible exact spec_ArrayOk.mono _ _ _)
      | (with_reducible exact spec_l3Rows.mono _ _ _)
      | (with_reducible exact spec_l5Rows.mono _ _ _)
      | (with_reducible exact LeO.refl _)
      | (with_reducible exact LeO.none _)
      | (with_reducible refine LeO.ite ?_ ?_)
      | (with_reducible refine LeO.bind ?_ (fun _ => ?_))
      | exact ih0 _ _ _ _ _
      | exact ih1 _ _ _ _ _ _ _
      | exact spec_ArrayOk.mono _ _ _
      | exact spec_l3Rows.mono _ _ _
      | exact spec_l5Rows.mono _ _ _
      | exact LeO.none _
      | refine LeO.ite ?_ ?_
      | refine LeO.bind ?_ (fun _ => ?_)
theorem spec_Rotate.mono : ∀ a0 a1 a2 a3 k, LeO (spec_Rotate.f k a0 a1 a2 a3) (spec_Rotate.f (k + 1) a0 a1 a2 a3) := by
  intro a0 a1 a2 a3 k
  obtain ⟨ih0, ih1⟩ := spec_Rotate.mono_l k
  unfold spec_Rotate.f
  repeat' first
      | (with_reducible exact ih0 _ _ _ _ _)
      | (with_reducible exact ih1 _ _ _ _ _ _ _)
      | (with_reducible exact spec_ArrayOk.mono _ _ _)
      | (with_reducible exact spec_l3Rows.mono _ _ _)
      | (with_reducible exact spec_l5Rows.mono _ _ _)
      | (with_reducible exact LeO.refl _)
      | (with_reducible exact LeO.none _)
      | (with_reducible refine LeO.ite ?_ ?_)
      | (with_reducible refine LeO.bind ?_ (fun _ => ?_))
      | exact ih0 _ _ _ _ _
      | exact ih1 _ _ _ _ _ _ _
      | exact spec_ArrayOk.mono _ _ _
      | exact spec_l3Rows.mono _ _ _
      | exact spec_l5Rows.mono _ _ _
      | exact LeO.none _
      | refine LeO.ite ?_ ?_
      | refine LeO.bind ?_ (fun _ => ?_)
set_option maxHeartbeats 8000000 in
set_option maxRecDepth 100000 in
theorem spec_Rotate.calls (k : Nat) (A0_0 : Option Addr) (c0_0 : Nat) (l0_0 : List Int) (A0_1 : Option Addr) (c0_1 : Nat) (l0_1 : List Int) (A1_0 : Option Addr) (c1_0 : Nat) (l1_0 : List Int) (A1_1 : Option Addr) (c1_1 : Nat) (l1_1 : List Int) (r1 : List Int) (r2 : List Int) (r3 : Int) (w : World) (hr0_0 : Kd.C (Kd.int .i64) w A0_0 l0_0.length l0_0) (hc0_0 : l0_0.length ≤ c0_0) (hr0_1 : Kd.C (Kd.int .i64) w A0_1 l0_1.length l0_1) (hc0_1 : l0_1.length ≤ c0_1) (hr1_0 : Kd.C (Kd.int .i64) w A1_0 l1_0.length l1_0) (hc1_0 : l1_0.length ≤ c1_0) (hr1_1 : Kd.C (Kd.int .i64) w A1_1 l1_1.length l1_1) (hc1_1 : l1_1.length ≤ c1_1) (h : spec_Rotate.f k l0_0 l0_1 l1_0 l1_1 = some (r1, r2, r3)) :
    Calls Try.prog 15 #[.agg #[.slice A0_0 l0_0.length c0_0, .slice A0_1 l0_1.length c0_1], .agg #[.slice A1_0 l1_0.length c1_0, .slice A1_1 l1_1.length c1_1]] w fun e w' => ∃ v0_ v1_ : Value, e = .returned (.tuple #[.agg #[v0_, v1_], .int .i64 r3]) ∧ Kd.R (Kd.int .i64) 3 w' w.heap.size (fun k_ => some k_ ≠ (v1_ : Value).ownBlock) v0_ r1 ∧ Kd.R (Kd.int .i64) 3 w' w.heap.size (fun k_ => some k_ ≠ (v0_ : Value).ownBlock) v1_ r2 ∧ Below w.heap.size w w' := by
  have hu26 := Try.underlying26
  have HR0_0 := Aside0.mk hr0_0
  have HC0_0 := Aside0.mk hc0_0
  clear hr0_0 hc0_0
  have HR0_1 := Aside0.mk hr0_1
  have HC0_1 := Aside0.mk hc0_1
  clear hr0_1 hc0_1
  have HR1_0 := Aside0.mk hr1_0
  have HC1_0 := Aside0.mk hc1_0
  clear hr1_0 hc1_0
  have HR1_1 := Aside0.mk hr1_1
  have HC1_1 := Aside0.mk hc1_1
  clear hr1_1 hc1_1
  have HB := Aside0.mk (Below.refl w.heap.size w)
  have H : ((spec_ArrayOk.f k l0_0 l0_1).bind fun t535 => (if t535 = true then ((spec_ArrayOk.f k l1_0 l1_1).bind fun t536 => (spec_Rotate.j0 k (!t536) l0_0 l0_1 l1_0 l1_1)) else (spec_Rotate.j0 k true l0_0 l0_1 l1_0 l1_1))) = some (r1, r2, r3) := h
  clear h
  have HC3 := Aside0.mk H
  clear H
  go_enter Try.func15, Try.ntmps15
  go_upto_region 1 with (first | ((with_reducible refine gate_dst (N := 2) rfl ?_); refine box_event ?hg (N := 2) ?hd (cs := #[.slice A0_0 l0_0.length c0_0, .slice A0_1 l0_1.length c0_1]) (t := 26) ?hr ?_; (case hd => rfl); (case hg => rfl); (case hr => first | (go_simp; done) | (go_simp; rfl)); intro gb532 hg w4 hbox hb; have n0_ := Aside0.mk (below_step (by repeat (first | (with_reducible first | exact HB.out | apply below_alloc | apply pw_below_drewN | apply below_drew1) | exact HB.out)) hb); have n1_ := Aside0.mk (hbox); have n2_ := Aside0.mk ((by rw [hg]; exact (below_size (by repeat (first | (with_reducible first | exact HB.out | apply below_alloc | apply pw_below_drewN | apply below_drew1) | exact HB.out))) : w.heap.size ≤ gb532)); have n3_ := Aside0.mk ((by rw [hg]; exact (below_size (by repeat (first | (with_reducible first | exact HB.out | apply below_alloc | apply pw_below_drewN | apply below_drew1) | exact HB.out))) : w.heap.size ≤ gb532)); clear HB; have HB := n0_; have BK532 := n1_; have GW532 := n2_; have GE532 := n3_; clear n0_ n1_ n2_ n3_; clear hb hbox hg) | ((with_reducible refine gate_dst (N := 3) rfl ?_); refine box_event ?hg (N := 3) ?hd (cs := #[.slice A1_0 l1_0.length c1_0, .slice A1_1 l1_1.length c1_1]) (t := 26) ?hr ?_; (case hd => rfl); (case hg => rfl); (case hr => first | (go_simp; done) | (go_simp; rfl)); intro gb533 hg w5 hbox hb; have n0_ := Aside0.mk (blk_below (g := gb532) (o := .cells #[.slice A0_0 l0_0.length c0_0, .slice A0_1 l0_1.length c0_1] 26 (0, 0)) (by (with_reducible repeat (first | refine blk_drewN ?_ _ | refine blk_drew ?_ | refine blk_alloc ?_ _)); exact BK532.out) hb); have n1_ := Aside0.mk (below_step (by repeat (first | (with_reducible first | exact HB.out | apply below_alloc | apply pw_below_drewN | apply below_drew1 | refine below_set ?_ GE532.out) | exact HB.out)) hb); have n2_ := Aside0.mk (hbox); have n3_ := Aside0.mk ((by rw [hg]; exact (below_size (by repeat (first | (with_reducible first | exact HB.out | apply below_alloc | apply pw_below_drewN | apply below_drew1 | refine below_set ?_ GE532.out) | exact HB.out))) : w.heap.size ≤ gb533)); have n4_ := Aside0.mk ((by rw [hg]; exact (below_size (by repeat (first | (with_reducible first | exact HB.out | apply below_alloc | apply pw_below_drewN | apply below_drew1 | refine below_set ?_ GE532.out) | exact HB.out))) : w.heap.size ≤ gb533)); have n5_ := Aside0.mk ((by rw [hg]; exact Nat.ne_of_lt (blk_lt (g := gb532) (o := .cells #[.slice A0_0 l0_0.length c0_0, .slice A0_1 l0_1.length c0_1] 26 (0, 0)) (by (with_reducible repeat (first | refine blk_drewN ?_ _ | refine blk_drew ?_ | refine blk_alloc ?_ _)); exact BK532.out)) : gb532 ≠ gb533)); have n6_ := Aside0.mk ((by rw [hg]; exact Nat.ne_of_gt (blk_lt (g := gb532) (o := .cells #[.slice A0_0 l0_0.length c0_0, .slice A0_1 l0_1.length c0_1] 26 (0, 0)) (by (with_reducible repeat (first | refine blk_drewN ?_ _ | refine blk_drew ?_ | refine blk_alloc ?_ _)); exact BK532.out)) : gb533 ≠ gb532)); clear BK532; clear HB; have BK532 := n0_; have HB := n1_; have BK533 := n2_; have GW533 := n3_; have GE533 := n4_; have NB532_533 := n5_; have NB533_532 := n6_; clear n0_ n1_ n2_ n3_ n4_ n5_ n6_; clear hb hbox hg) | ((with_reducible refine gate_dst (N := 4) rfl ?_); refine box_event ?hg (N := 4) ?hd (cs := #[.slice none 0 0, .slice none 0 0]) (t := 26) ?hr ?_; (case hd => rfl); (case hg => rfl); (case hr => first | (go_simp; done) | (go_simp; rfl)); intro gb534 hg w6 hbox hb; have n0_ := Aside0.mk (blk_below (g := gb532) (o := .cells #[.slice A0_0 l0_0.length c0_0, .slice A0_1 l0_1.length c0_1] 26 (0, 0)) (by (with_reducible repeat (first | refine blk_drewN ?_ _ | refine blk_drew ?_ | refine blk_alloc ?_ _)); exact BK532.out) hb); have n1_ := Aside0.mk (blk_below (g := gb533) (o := .cells #[.slice A1_0 l1_0.length c1_0, .slice A1_1 l1_1.length c1_1] 26 (0, 0)) (by (with_reducible repeat (first | refine blk_drewN ?_ _ | refine blk_drew ?_ | refine blk_alloc ?_ _)); exact BK533.out) hb); have n2_ := Aside0.mk (below_step (by repeat (first | (with_reducible first | exact HB.out | apply below_alloc | apply pw_below_drewN | apply below_drew1 | refine below_set ?_ GE532.out | refine below_set ?_ GE533.out) | exact HB.out)) hb); have n3_ := Aside0.mk (hbox); have n4_ := Aside0.mk ((by rw [hg]; exact (below_size (by repeat (first | (with_reducible first | exact HB.out | apply below_alloc | apply pw_below_drewN | apply below_drew1 | refine below_set ?_ GE532.out | refine below_set ?_ GE533.out) | exact HB.out))) : w.heap.size ≤ gb534)); have n5_ := Aside0.mk ((by rw [hg]; exact (below_size (by repeat (first | (with_reducible first | exact HB.out | apply below_alloc | apply pw_below_drewN | apply below_drew1 | refine below_set ?_ GE532.out | refine below_set ?_ GE533.out) | exact HB.out))) : w.heap.size ≤ gb534)); have n6_ := Aside0.mk ((by rw [hg]; exact Nat.ne_of_lt (blk_lt (g := gb532) (o := .cells #[.slice A0_0 l0_0.length c0_0, .slice A0_1 l0_1.length c0_1] 26 (0, 0)) (by (with_reducible repeat (first | refine blk_drewN ?_ _ | refine blk_drew ?_ | refine blk_alloc ?_ _)); exact BK532.out)) : gb532 ≠ gb534)); have n7_ := Aside0.mk ((by rw [hg]; exact Nat.ne_of_gt (blk_lt (g := gb532) (o := .cells #[.slice A0_0 l0_0.length c0_0, .slice A0_1 l0_1.length c0_1] 26 (0, 0)) (by (with_reducible repeat (first | refine blk_drewN ?_ _ | refine blk_drew ?_ | refine blk_alloc ?_ _)); exact BK532.out)) : gb534 ≠ gb532)); have n8_ := Aside0.mk ((by rw [hg]; exact Nat.ne_of_lt (blk_lt (g := gb533) (o := .cells #[.slice A1_0 l1_0.length c1_0, .slice A1_1 l1_1.length c1_1] 26 (0, 0)) (by (with_reducible repeat (first | refine blk_drewN ?_ _ | refine blk_drew ?_ | refine blk_alloc ?_ _)); exact BK533.out)) : gb533 ≠ gb534)); have n9_ := Aside0.mk ((by rw [hg]; exact Nat.ne_of_gt (blk_lt (g := gb533) (o := .cells #[.slice A1_0 l1_0.length c1_0, .slice A1_1 l1_1.length c1_1] 26 (0, 0)) (by (with_reducible repeat (first | refine blk_drewN ?_ _ | refine blk_drew ?_ | refine blk_alloc ?_ _)); exact BK533.out)) : gb534 ≠ gb533)); clear BK532; clear BK533; clear HB; have BK532 := n0_; have BK533 := n1_; have HB := n2_; have BK534 := n3_; have GW534 := n4_; have GE534 := n5_; have NB532_534 := n6_; have NB534_532 := n7_; have NB533_534 := n8_; have NB534_533 := n9_; clear n0_ n1_ n2_ n3_ n4_ n5_ n6_ n7_ n8_ n9_; clear hb hbox hg))
  (try simp only [Act.put, List.setIfInBounds_toArray, List.set_cons_zero, List.set_cons_succ])
  go_cut [11] (fun v11 wc => ∃ (kq : Nat) (x11_2 : Bool), v11 = .bool x11_2 ∧ Aside0 (spec_Rotate.j0 kq x11_2 l0_0 l0_1 l1_0 l1_1 = some (r1, r2, r3)) ∧ Aside0 (kq ≤ k) ∧ Aside0 (wc.heap[gb532]? = some (.cells #[(.slice A0_0 l0_0.length c0_0), (.slice A0_1 l0_1.length c0_1)] 26 (0, 0))) ∧ Aside0 (wc.heap[gb533]? = some (.cells #[(.slice A1_0 l1_0.length c1_0), (.slice A1_1 l1_1.length c1_1)] 26 (0, 0))) ∧ Aside0 (wc.heap[gb534]? = some (.cells #[(.slice none 0 0), (.slice none 0 0)] 26 (0, 0))) ∧ Aside0 (Below w.heap.size w wc))
  case first =>
    have H := HC3.out
    clear HC3
    replace H := Option.bind_eq_some_iff.mp H
    obtain ⟨t535, A70, H⟩ := H
    replace H : (if t535 = true then ((spec_ArrayOk.f k l1_0 l1_1).bind fun t536 => (spec_Rotate.j0 k (!t536) l0_0 l0_1 l1_0 l1_1)) else (spec_Rotate.j0 k true l0_0 l0_1 l1_0 l1_1)) = some (r1, r2, r3) := H
    have A7 := Aside0.mk A70
    clear A70
    by_cases c8 : t535 = true
    · subst c8
      have H1 : ((spec_ArrayOk.f k l1_0 l1_1).bind fun t536 => (spec_Rotate.j0 k (!t536) l0_0 l0_1 l1_0 l1_1)) = some (r1, r2, r3) := by rw [if_pos rfl] at H; exact H
      clear H
      have H := H1
      clear H1
      replace H := Option.bind_eq_some_iff.mp H
      obtain ⟨t536, A90, H⟩ := H
      replace H : (spec_Rotate.j0 k (!t536) l0_0 l0_1 l1_0 l1_1) = some (r1, r2, r3) := H
      have A9 := Aside0.mk A90
      clear A90
      have H' := Aside0.mk H
      clear H
      have hnb10 := NB532_533.out
      have hnc10 := NB533_532.out
      have hnb11 := NB532_534.out
      have hnc11 := NB534_532.out
      have hcz12_0 : w6.cell? ⟨gb532, 0, none⟩ = some (.slice A0_0 l0_0.length c0_0) := (blk_cell BK532.out 0).trans rfl
      have hcz12_1 : w6.cell? ⟨gb532, 1, none⟩ = some (.slice A0_1 l0_1.length c0_1) := (blk_cell BK532.out 1).trans rfl
      have hfz12_0 := blk_frozen BK532.out 0
      have hfz12_1 := blk_frozen BK532.out 1
      go_wp2_with (first | ((with_reducible refine gate_callee (f := 20) rfl ?_); refine goesL_ (some 13) rfl rfl Try.func20 (by kernel_rfl) rfl #[.agg #[.slice A0_0 l0_0.length c0_0, .slice A0_1 l0_1.length c0_1]] rfl (by (try simp only [List.map_toArray, List.map_cons, List.map_nil]); first | done | rfl | (simp only [List.length_drop, List.length_take]; rfl)) ?_; (with_reducible refine (spec_ArrayOk.calls k _ _ l0_0 _ _ l0_1 true _ ?side1 ?side2 ?side3 ?side4 A7.out).mono ?_); (case side1 => repeat (first | exact (Kd.C_below HR0_0.out HB.out) | (with_reducible refine Kd.C_alloc ?_ _) | (with_reducible refine Kd.C_drewN ?_ _) | (with_reducible refine Kd.C_drew ?_))); (case side2 => exact HC0_0.out); (case side3 => repeat (first | exact (Kd.C_below HR0_1.out HB.out) | (with_reducible refine Kd.C_alloc ?_ _) | (with_reducible refine Kd.C_drewN ?_ _) | (with_reducible refine Kd.C_drew ?_))); (case side4 => exact HC0_1.out); rintro e w13 ⟨rfl, hb⟩; refine ⟨_, rfl, ?_⟩; have n0_ := Aside0.mk (blk_below (g := gb532) (o := .cells #[.slice A0_0 l0_0.length c0_0, .slice A0_1 l0_1.length c0_1] 26 (0, 0)) (by (with_reducible repeat (first | refine blk_drewN ?_ _ | refine blk_drew ?_ | refine blk_alloc ?_ _)); exact BK532.out) hb); have n1_ := Aside0.mk (blk_below (g := gb533) (o := .cells #[.slice A1_0 l1_0.length c1_0, .slice A1_1 l1_1.length c1_1] 26 (0, 0)) (by (with_reducible repeat (first | refine blk_drewN ?_ _ | refine blk_drew ?_ | refine blk_alloc ?_ _)); exact BK533.out) hb); have n2_ := Aside0.mk (blk_below (g := gb534) (o := .cells #[.slice none 0 0, .slice none 0 0] 26 (0, 0)) (by (with_reducible repeat (first | refine blk_drewN ?_ _ | refine blk_drew ?_ | refine blk_alloc ?_ _)); exact BK534.out) hb); have n3_ := Aside0.mk (below_step (by repeat (first | (with_reducible first | exact HB.out | apply below_alloc | apply pw_below_drewN | apply below_drew1 | refine below_set ?_ GE532.out | refine below_set ?_ GE533.out | refine below_set ?_ GE534.out) | exact HB.out)) hb); clear BK532; clear BK533; clear BK534; clear HB; have BK532 := n0_; have BK533 := n1_; have BK534 := n2_; have HB := n3_; clear n0_ n1_ n2_ n3_; (try clear hb); (try clear hb2); (try clear hk); (try clear hi); have hnb14 := NB533_534.out; have hnc14 := NB534_533.out; have hcz15_0 : w13.cell? ⟨gb533, 0, none⟩ = some (.slice A1_0 l1_0.length c1_0) := (blk_cell BK533.out 0).trans rfl; have hcz15_1 : w13.cell? ⟨gb533, 1, none⟩ = some (.slice A1_1 l1_1.length c1_1) := (blk_cell BK533.out 1).trans rfl; have hfz15_0 := blk_frozen BK533.out 0; have hfz15_1 := blk_frozen BK533.out 1) | (go_at_call 20; (repeat rw [i64_w]); (with_reducible refine (spec_ArrayOk.calls k _ _ l1_0 _ _ l1_1 t536 _ ?side1 ?side2 ?side3 ?side4 A9.out).mono ?_); (case side1 => repeat (first | exact (Kd.C_below HR1_0.out HB.out) | (with_reducible refine Kd.C_alloc ?_ _) | (with_reducible refine Kd.C_drewN ?_ _) | (with_reducible refine Kd.C_drew ?_))); (case side2 => exact HC1_0.out); (case side3 => repeat (first | exact (Kd.C_below HR1_1.out HB.out) | (with_reducible refine Kd.C_alloc ?_ _) | (with_reducible refine Kd.C_drewN ?_ _) | (with_reducible refine Kd.C_drew ?_))); (case side4 => exact HC1_1.out); rintro e w16 ⟨rfl, hb⟩; have n0_ := Aside0.mk (blk_below (g := gb532) (o := .cells #[.slice A0_0 l0_0.length c0_0, .slice A0_1 l0_1.length c0_1] 26 (0, 0)) (by (with_reducible repeat (first | refine blk_drewN ?_ _ | refine blk_drew ?_ | refine blk_alloc ?_ _)); exact BK532.out) hb); have n1_ := Aside0.mk (blk_below (g := gb533) (o := .cells #[.slice A1_0 l1_0.length c1_0, .slice A1_1 l1_1.length c1_1] 26 (0, 0)) (by (with_reducible repeat (first | refine blk_drewN ?_ _ | refine blk_drew ?_ | refine blk_alloc ?_ _)); exact BK533.out) hb); have n2_ := Aside0.mk (blk_below (g := gb534) (o := .cells #[.slice none 0 0, .slice none 0 0] 26 (0, 0)) (by (with_reducible repeat (first | refine blk_drewN ?_ _ | refine blk_drew ?_ | refine blk_alloc ?_ _)); exact BK534.out) hb); have n3_ := Aside0.mk (below_step (by repeat (first | (with_reducible first | exact HB.out | apply below_alloc | apply pw_below_drewN | apply below_drew1 | refine below_set ?_ GE532.out | refine below_set ?_ GE533.out | refine below_set ?_ GE534.out) | exact HB.out)) hb); clear BK532; clear BK533; clear BK534; clear HB; have BK532 := n0_; have BK533 := n1_; have BK534 := n2_; have HB := n3_; clear n0_ n1_ n2_ n3_; (try clear hb); (try clear hb2); (try clear hk); (try clear hi)))
      go_meet
      case rel => exact ⟨_, (!t536), (by first | rfl | (simp; done) | (simp [*]; done)), H', ⟨by first | omega | exact Nat.le_refl _⟩, ⟨by (with_reducible repeat (first | refine blk_drewN ?_ _ | refine blk_drew ?_ | refine blk_alloc ?_ _)); exact BK532.out⟩, ⟨by (with_reducible repeat (first | refine blk_drewN ?_ _ | refine blk_drew ?_ | refine blk_alloc ?_ _)); exact BK533.out⟩, ⟨by (with_reducible repeat (first | refine blk_drewN ?_ _ | refine blk_drew ?_ | refine blk_alloc ?_ _)); exact BK534.out⟩, ⟨by repeat (first | (with_reducible first | exact HB.out | apply below_alloc | apply pw_below_drewN | apply below_drew1 | refine below_set ?_ GE532.out | refine below_set ?_ GE533.out | refine below_set ?_ GE534.out) | exact HB.out)⟩⟩
    · replace c8 := Bool.eq_false_iff.mpr c8
      subst c8
      have H1 : (spec_Rotate.j0 k true l0_0 l0_1 l1_0 l1_1) = some (r1, r2, r3) := by rw [if_neg (show ¬ (false = true) by decide)] at H; exact H
      clear H
      have H := H1
      clear H1
      have H' := Aside0.mk H
      clear H
      have hnb17 := NB532_533.out
      have hnc17 := NB533_532.out
      have hnb18 := NB532_534.out
      have hnc18 := NB534_532.out
      have hcz19_0 : w6.cell? ⟨gb532, 0, none⟩ = some (.slice A0_0 l0_0.length c0_0) := (blk_cell BK532.out 0).trans rfl
      have hcz19_1 : w6.cell? ⟨gb532, 1, none⟩ = some (.slice A0_1 l0_1.length c0_1) := (blk_cell BK532.out 1).trans rfl
      have hfz19_0 := blk_frozen BK532.out 0
      have hfz19_1 := blk_frozen BK532.out 1
      go_wp2_with (first | ((with_reducible refine gate_callee (f := 20) rfl ?_); refine goesL_ (some 13) rfl rfl Try.func20 (by kernel_rfl) rfl #[.agg #[.slice A0_0 l0_0.length c0_0, .slice A0_1 l0_1.length c0_1]] rfl (by (try simp only [List.map_toArray, List.map_cons, List.map_nil]); first | done | rfl | (simp only [List.length_drop, List.length_take]; rfl)) ?_; (with_reducible refine (spec_ArrayOk.calls k _ _ l0_0 _ _ l0_1 false _ ?side1 ?side2 ?side3 ?side4 A7.out).mono ?_); (case side1 => repeat (first | exact (Kd.C_below HR0_0.out HB.out) | (with_reducible refine Kd.C_alloc ?_ _) | (with_reducible refine Kd.C_drewN ?_ _) | (with_reducible refine Kd.C_drew ?_))); (case side2 => exact HC0_0.out); (case side3 => repeat (first | exact (Kd.C_below HR0_1.out HB.out) | (with_reducible refine Kd.C_alloc ?_ _) | (with_reducible refine Kd.C_drewN ?_ _) | (with_reducible refine Kd.C_drew ?_))); (case side4 => exact HC0_1.out); rintro e w20 ⟨rfl, hb⟩; refine ⟨_, rfl, ?_⟩; have n0_ := Aside0.mk (blk_below (g := gb532) (o := .cells #[.slice A0_0 l0_0.length c0_0, .slice A0_1 l0_1.length c0_1] 26 (0, 0)) (by (with_reducible repeat (first | refine blk_drewN ?_ _ | refine blk_drew ?_ | refine blk_alloc ?_ _)); exact BK532.out) hb); have n1_ := Aside0.mk (blk_below (g := gb533) (o := .cells #[.slice A1_0 l1_0.length c1_0, .slice A1_1 l1_1.length c1_1] 26 (0, 0)) (by (with_reducible repeat (first | refine blk_drewN ?_ _ | refine blk_drew ?_ | refine blk_alloc ?_ _)); exact BK533.out) hb); have n2_ := Aside0.mk (blk_below (g := gb534) (o := .cells #[.slice none 0 0, .slice none 0 0] 26 (0, 0)) (by (with_reducible repeat (first | refine blk_drewN ?_ _ | refine blk_drew ?_ | refine blk_alloc ?_ _)); exact BK534.out) hb); have n3_ := Aside0.mk (below_step (by repeat (first | (with_reducible first | exact HB.out | apply below_alloc | apply pw_below_drewN | apply below_drew1 | refine below_set ?_ GE532.out | refine below_set ?_ GE533.out | refine below_set ?_ GE534.out) | exact HB.out)) hb); clear BK532; clear BK533; clear BK534; clear HB; have BK532 := n0_; have BK533 := n1_; have BK534 := n2_; have HB := n3_; clear n0_ n1_ n2_ n3_; (try clear hb); (try clear hb2); (try clear hk); (try clear hi)))
      go_meet
      case rel => exact ⟨_, (true), (by first | rfl | (simp; done) | (simp [*]; done)), H', ⟨by first | omega | exact Nat.le_refl _⟩, ⟨by (with_reducible repeat (first | refine blk_drewN ?_ _ | refine blk_drew ?_ | refine blk_alloc ?_ _)); exact BK532.out⟩, ⟨by (with_reducible repeat (first | refine blk_drewN ?_ _ | refine blk_drew ?_ | refine blk_alloc ?_ _)); exact BK533.out⟩, ⟨by (with_reducible repeat (first | refine blk_drewN ?_ _ | refine blk_drew ?_ | refine blk_alloc ?_ _)); exact BK534.out⟩, ⟨by repeat (first | (with_reducible first | exact HB.out | apply below_alloc | apply pw_below_drewN | apply below_drew1 | refine below_set ?_ GE532.out | refine below_set ?_ GE533.out | refine below_set ?_ GE534.out) | exact HB.out)⟩⟩
  case rest =>
    clear HC3
    try clear c1
    try clear c2
    try clear p2
    try clear c8
    try clear c10
    try clear c11
    try clear c14
    try clear c15
    try clear c17
    try clear c18
    try clear c20
    try clear hcz12_0
    try clear hcz12_1
    try clear hcz15_0
    try clear hcz15_1
    try clear hcz19_0
    try clear hcz19_1
    try clear hfz12_0
    try clear hfz12_1
    try clear hfz15_0
    try clear hfz15_1
    try clear hfz19_0
    try clear hfz19_1
    obtain ⟨kq, x11_2, rfl, HA, HJ2, BK532, BK533, BK534, HB⟩ := hcut
    cases kq with
    | zero => exact absurd HA.out (by simp [spec_Rotate.j0])
    | succ kj2 =>
      have H := HA.out
      clear HA
      simp only [spec_Rotate.j0] at H
      by_cases c21 : x11_2 = true
      · subst c21
        have H1 : (some (([] : List Int), ([] : List Int), 1)) = some (r1, r2, r3) := by rw [if_pos rfl] at H; exact H
        clear H
        have H := H1
        clear H1
        simp only [Option.some.injEq, Prod.mk.injEq] at H
        obtain ⟨rfl, rfl, rfl⟩ := H
        have hnb22 := NB534_532.out
        have hnc22 := NB532_534.out
        have hnb23 := NB534_533.out
        have hnc23 := NB533_534.out
        have hcz24_0 : wc.cell? ⟨gb534, 0, none⟩ = some (.slice none 0 0) := (blk_cell BK534.out 0).trans rfl
        have hcz24_1 : wc.cell? ⟨gb534, 1, none⟩ = some (.slice none 0 0) := (blk_cell BK534.out 1).trans rfl
        have hfz24_0 := blk_frozen BK534.out 0
        have hfz24_1 := blk_frozen BK534.out 1
        go_wp2
        refine bodyPost_ret (results_ct rfl _ _ gb534 26 #[.slice none 0 0, .slice none 0 0] (0, 0) _ rfl (by (with_reducible repeat (first | refine blk_drewN ?_ _ | refine blk_drew ?_ | refine blk_alloc ?_ _)); refine blk_put (cs := #[.slice none 0 0, .slice none 0 0]) ?_ 1 _ rfl; (with_reducible repeat (first | refine blk_drewN ?_ _ | refine blk_drew ?_ | refine blk_alloc ?_ _)); refine blk_put (cs := #[.slice none 0 0, .slice none 0 0]) ?_ 0 _ rfl; (with_reducible repeat (first | refine blk_drewN ?_ _ | refine blk_drew ?_ | refine blk_alloc ?_ _)); exact BK534.out) Try.underlying26 rfl (by kernel_rfl)) rfl ?_
        exact ⟨_, _, by first | rfl | (simp [errW_none, errW_some] <;> rfl) | (simp [*, errW_none, errW_some] <;> rfl), by first | exact Kd.R_nil _ _ _ _ _ | exact Kd.N_nil _ _ _ _ _ | exact Kd.V_nil _ _ _ _ _ | exact Kd.Q_nil _ _ _ _ _ | exact Kd.S_nil _ _ _ _ _, by first | exact Kd.R_nil _ _ _ _ _ | exact Kd.N_nil _ _ _ _ _ | exact Kd.V_nil _ _ _ _ _ | exact Kd.Q_nil _ _ _ _ _ | exact Kd.S_nil _ _ _ _ _, by repeat (first | (with_reducible first | exact HB.out | apply below_alloc | apply pw_below_drewN | apply below_drew1 | refine below_set ?_ GE532.out | refine below_set ?_ GE533.out | refine below_set ?_ GE534.out) | exact HB.out)⟩
      · replace c21 := Bool.eq_false_iff.mpr c21
        subst c21
        have H1 : (if (l0_1.length : Int) = 1 then (if (l1_0.length : Int) = 0 then ((spec_l3Copy.f l1_0 l1_1).bind fun bt537 => (some (bt537.1, bt537.2, 0))) else (if 0 < (l1_0.length : Int) then (if (rd l1_0 0) = 0 then ((spec_l3Copy.f l1_0 l1_1).bind fun bt544 => (some (bt544.1, bt544.2, 0))) else ((spec_l3Rows.f kj2 l1_0 l1_1).bind fun t550 => (if 0 < (l0_1.length : Int) then (if (t550.length : Int) = 0 then (none) else (spec_Rotate.l0 kj2 t550 (t550.length : Int) (Int.tmod (wrap64 ((Int.tmod (rd l0_1 0) (t550.length : Int)) + (t550.length : Int))) (t550.length : Int)) (([] : List (S26))) 0 l1_0 l1_1)) else (none)))) else (none))) else (some (([] : List Int), ([] : List Int), 3))) = some (r1, r2, r3) := by rw [if_neg (show ¬ (false = true) by decide)] at H; exact H
        clear H
        have H := H1
        clear H1
        by_cases c25 : (l0_1.length : Int) = 1
        · rw [if_pos c25] at H
          have c25b0 : ((l0_1.length : Int) == 1) = true := beq_iff_eq.mpr c25
          have c25b1 : ((l0_1.length : Int) != 1) = false := bne_eq_false_iff_eq.mpr c25
          clear c25
          by_cases c26 : (l1_0.length : Int) = 0
          · rw [if_pos c26] at H
            have c26b0 : ((l1_0.length : Int) == 0) = true := beq_iff_eq.mpr c26
            have c26b1 : ((l1_0.length : Int) != 0) = false := bne_eq_false_iff_eq.mpr c26
            clear c26
            replace H := Option.bind_eq_some_iff.mp H
            obtain ⟨⟨t537, t540⟩, A270, H⟩ := H
            replace H : (some (t537, t540, 0)) = some (r1, r2, r3) := H
            have A27 := Aside0.mk A270
            clear A270
            simp only [Option.some.injEq, Prod.mk.injEq] at H
            obtain ⟨rfl, rfl, rfl⟩ := H
            have hnb28 := NB532_533.out
            have hnc28 := NB533_532.out
            have hnb29 := NB532_534.out
            have hnc29 := NB534_532.out
            have hcz30_0 : wc.cell? ⟨gb532, 0, none⟩ = some (.slice A0_0 l0_0.length c0_0) := (blk_cell BK532.out 0).trans rfl
            have hcz30_1 : wc.cell? ⟨gb532, 1, none⟩ = some (.slice A0_1 l0_1.length c0_1) := (blk_cell BK532.out 1).trans rfl
            have hfz30_0 := blk_frozen BK532.out 0
            have hfz30_1 := blk_frozen BK532.out 1
            have hnb31 := NB533_534.out
            have hnc31 := NB534_533.out
            have hcz32_0 : wc.cell? ⟨gb533, 0, none⟩ = some (.slice A1_0 l1_0.length c1_0) := (blk_cell BK533.out 0).trans rfl
            have hcz32_1 : wc.cell? ⟨gb533, 1, none⟩ = some (.slice A1_1 l1_1.length c1_1) := (blk_cell BK533.out 1).trans rfl
            have hfz32_0 := blk_frozen BK533.out 0
            have hfz32_1 := blk_frozen BK533.out 1
            go_wp2_with (first | ((with_reducible refine gate_callee (f := 39) rfl ?_); refine goesL_ (some 40) rfl rfl Try.func39 (by kernel_rfl) rfl #[.agg #[.slice A1_0 l1_0.length c1_0, .slice A1_1 l1_1.length c1_1]] rfl (by (try simp only [List.map_toArray, List.map_cons, List.map_nil]); first | done | rfl | (simp only [List.length_drop, List.length_take]; rfl)) ?_; (with_reducible refine (spec_l3Copy.calls _ _ l1_0 _ _ l1_1 t537 t540 _ ?side1 ?side2 ?side3 ?side4 A27.out).mono ?_); (case side1 => repeat (first | exact (Kd.C_below HR1_0.out HB.out) | (with_reducible refine Kd.C_alloc ?_ _) | (with_reducible refine Kd.C_drewN ?_ _) | (with_reducible refine Kd.C_drew ?_))); (case side2 => exact HC1_0.out); (case side3 => repeat (first | exact (Kd.C_below HR1_1.out HB.out) | (with_reducible refine Kd.C_alloc ?_ _) | (with_reducible refine Kd.C_drewN ?_ _) | (with_reducible refine Kd.C_drew ?_))); (case side4 => exact HC1_1.out); rintro e w33 ⟨v538, v541, rfl, ho0, ho1, hb⟩; refine ⟨_, rfl, ?_⟩; have n0_ := Aside0.mk (Kd.R_lower ho0 (below_size (by repeat (first | (with_reducible first | exact HB.out | apply below_alloc | apply pw_below_drewN | apply below_drew1 | refine below_set ?_ GE532.out | refine below_set ?_ GE533.out | refine below_set ?_ GE534.out) | exact HB.out)))); have n1_ := Aside0.mk (Kd.R_lower ho1 (below_size (by repeat (first | (with_reducible first | exact HB.out | apply below_alloc | apply pw_below_drewN | apply below_drew1 | refine below_set ?_ GE532.out | refine below_set ?_ GE533.out | refine below_set ?_ GE534.out) | exact HB.out)))); have n2_ := Aside0.mk (blk_below (g := gb532) (o := .cells #[.slice A0_0 l0_0.length c0_0, .slice A0_1 l0_1.length c0_1] 26 (0, 0)) (by (with_reducible repeat (first | refine blk_drewN ?_ _ | refine blk_drew ?_ | refine blk_alloc ?_ _)); exact BK532.out) hb); have n3_ := Aside0.mk (blk_below (g := gb533) (o := .cells #[.slice A1_0 l1_0.length c1_0, .slice A1_1 l1_1.length c1_1] 26 (0, 0)) (by (with_reducible repeat (first | refine blk_drewN ?_ _ | refine blk_drew ?_ | refine blk_alloc ?_ _)); exact BK533.out) hb); have n4_ := Aside0.mk (blk_below (g := gb534) (o := .cells #[.slice none 0 0, .slice none 0 0] 26 (0, 0)) (by (with_reducible repeat (first | refine blk_drewN ?_ _ | refine blk_drew ?_ | refine blk_alloc ?_ _)); exact BK534.out) hb); have n5_ := Aside0.mk (below_step (by repeat (first | (with_reducible first | exact HB.out | apply below_alloc | apply pw_below_drewN | apply below_drew1 | refine below_set ?_ GE532.out | refine below_set ?_ GE533.out | refine below_set ?_ GE534.out) | exact HB.out)) hb); clear BK532; clear BK533; clear BK534; clear HB; have HO539 := n0_; have HO542 := n1_; have BK532 := n2_; have BK533 := n3_; have BK534 := n4_; have HB := n5_; clear n0_ n1_ n2_ n3_ n4_ n5_; (try clear hb); (try clear hb2); (try clear hk); (try clear hi); (try clear ho0); (try clear ho1); obtain ⟨Ao34, co34, eo34⟩ := Kd.R_slice HO539.out; subst eo34; have hcz35_0 : w33.cell? ⟨gb534, 0, none⟩ = some (.slice none 0 0) := (blk_cell BK534.out 0).trans rfl; have hcz35_1 : w33.cell? ⟨gb534, 1, none⟩ = some (.slice none 0 0) := (blk_cell BK534.out 1).trans rfl; have hfz35_0 := blk_frozen BK534.out 0; have hfz35_1 := blk_frozen BK534.out 1; obtain ⟨Ao36, co36, eo36⟩ := Kd.R_slice HO542.out; subst eo36))
            refine bodyPost_ret (results_ct rfl _ _ gb534 26 #[.slice Ao34 t537.length co34, .slice Ao36 t540.length co36] (0, 0) _ rfl (by (with_reducible repeat (first | refine blk_drewN ?_ _ | refine blk_drew ?_ | refine blk_alloc ?_ _)); refine blk_put (cs := #[.slice Ao34 t537.length co34, .slice none 0 0]) ?_ 1 _ rfl; (with_reducible repeat (first | refine blk_drewN ?_ _ | refine blk_drew ?_ | refine blk_alloc ?_ _)); refine blk_put (cs := #[.slice none 0 0, .slice none 0 0]) ?_ 0 _ rfl; (with_reducible repeat (first | refine blk_drewN ?_ _ | refine blk_drew ?_ | refine blk_alloc ?_ _)); exact BK534.out) Try.underlying26 rfl (by kernel_rfl)) rfl ?_
            exact ⟨_, _, by first | rfl | (simp [errW_none, errW_some] <;> rfl) | (simp [*, errW_none, errW_some] <;> rfl), by (with_reducible repeat (first | apply Kd.R_alloc | apply Kd.R_drewN | apply Kd.R_drew)); exact Kd.R_mono (Kd.R_far (p := ⟨gb534, 1, none⟩) (Kd.R_far (p := ⟨gb534, 0, none⟩) (Kd.R_types HO539.out BK534.out (by decide)) (fun _ hk => hk.2) (.slice Ao34 t537.length co34)) (fun _ hk => hk.2) (.slice Ao36 t540.length co36)) (fun _ hk => hk.1), by (with_reducible repeat (first | apply Kd.R_alloc | apply Kd.R_drewN | apply Kd.R_drew)); exact Kd.R_mono (Kd.R_far (p := ⟨gb534, 1, none⟩) (Kd.R_far (p := ⟨gb534, 0, none⟩) (Kd.R_types HO542.out BK534.out (by decide)) (fun _ hk => hk.2) (.slice Ao34 t537.length co34)) (fun _ hk => hk.2) (.slice Ao36 t540.length co36)) (fun _ hk => hk.1), by repeat (first | (with_reducible first | exact HB.out | apply below_alloc | apply pw_below_drewN | apply below_drew1 | refine below_set ?_ GE532.out | refine below_set ?_ GE533.out | refine below_set ?_ GE534.out) | exact HB.out)⟩
          · rw [if_neg c26] at H
            have c26b0 : ((l1_0.length : Int) == 0) = false := beq_eq_false_iff_ne.mpr c26
            have c26b1 : ((l1_0.length : Int) != 0) = true := bne_iff_ne.mpr c26
            have c26b2 : ¬ (l1_0 = []) := fun h_ => c26 (by rw [h_]; rfl)
            by_cases c37 : 0 < (l1_0.length : Int)
            · rw [if_pos c37] at H
              have c37b0 : decide (0 < (l1_0.length : Int)) = true := decide_eq_true c37
              have c37b1 : decide (0 < l1_0.length) = true := decide_eq_true (by omega)
              clear c37
              by_cases c38 : (rd l1_0 0) = 0
              · rw [if_pos c38] at H
                have c38b0 : ((rd l1_0 0) == 0) = true := beq_iff_eq.mpr c38
                have c38b1 : ((rd l1_0 0) != 0) = false := bne_eq_false_iff_eq.mpr c38
                clear c38
                replace H := Option.bind_eq_some_iff.mp H
                obtain ⟨⟨t544, t547⟩, A390, H⟩ := H
                replace H : (some (t544, t547, 0)) = some (r1, r2, r3) := H
                have A39 := Aside0.mk A390
                clear A390
                simp only [Option.some.injEq, Prod.mk.injEq] at H
                obtain ⟨rfl, rfl, rfl⟩ := H
                have hnb40 := NB532_533.out
                have hnc40 := NB533_532.out
                have hnb41 := NB532_534.out
                have hnc41 := NB534_532.out
                have hcz42_0 : wc.cell? ⟨gb532, 0, none⟩ = some (.slice A0_0 l0_0.length c0_0) := (blk_cell BK532.out 0).trans rfl
                have hcz42_1 : wc.cell? ⟨gb532, 1, none⟩ = some (.slice A0_1 l0_1.length c0_1) := (blk_cell BK532.out 1).trans rfl
                have hfz42_0 := blk_frozen BK532.out 0
                have hfz42_1 := blk_frozen BK532.out 1
                have hnb43 := NB533_534.out
                have hnc43 := NB534_533.out
                have hcz44_0 : wc.cell? ⟨gb533, 0, none⟩ = some (.slice A1_0 l1_0.length c1_0) := (blk_cell BK533.out 0).trans rfl
                have hcz44_1 : wc.cell? ⟨gb533, 1, none⟩ = some (.slice A1_1 l1_1.length c1_1) := (blk_cell BK533.out 1).trans rfl
                have hfz44_0 := blk_frozen BK533.out 0
                have hfz44_1 := blk_frozen BK533.out 1
                have p543 : 0 ≤ (0 : Int) := (by omega)
                have q543 : 0 < (l1_0.length : Int) := of_decide_eq_true (by first | (with_reducible assumption) | assumption)
                obtain ⟨ad543, e543, hx543_0⟩ := Kd.at_int HR1_0.out 0 p543 q543
                cases e543
                have qi543 : (0 < l1_0.length) = True := eq_true (by omega)
                (try rw [show ((0 : Int)).toNat = 0 from rfl] at hx543_0)
                (try rw [Addr.add_zero'] at hx543_0)
                replace hx543_0 := (HB.out.cell (World.block_lt_of_cell? w _ hx543_0)).trans hx543_0
                replace p543 := eq_true p543
                replace q543 := eq_true q543
                go_wp2_with (first | ((with_reducible refine gate_callee (f := 39) rfl ?_); refine goesL_ (some 40) rfl rfl Try.func39 (by kernel_rfl) rfl #[.agg #[.slice (some ad543) l1_0.length c1_0, .slice A1_1 l1_1.length c1_1]] rfl (by (try simp only [List.map_toArray, List.map_cons, List.map_nil]); first | done | rfl | (simp only [List.length_drop, List.length_take]; rfl)) ?_; (with_reducible refine (spec_l3Copy.calls _ _ l1_0 _ _ l1_1 t544 t547 _ ?side1 ?side2 ?side3 ?side4 A39.out).mono ?_); (case side1 => repeat (first | exact (Kd.C_below HR1_0.out HB.out) | (with_reducible refine Kd.C_alloc ?_ _) | (with_reducible refine Kd.C_drewN ?_ _) | (with_reducible refine Kd.C_drew ?_))); (case side2 => exact HC1_0.out); (case side3 => repeat (first | exact (Kd.C_below HR1_1.out HB.out) | (with_reducible refine Kd.C_alloc ?_ _) | (with_reducible refine Kd.C_drewN ?_ _) | (with_reducible refine Kd.C_drew ?_))); (case side4 => exact HC1_1.out); rintro e w45 ⟨v545, v548, rfl, ho0, ho1, hb⟩; refine ⟨_, rfl, ?_⟩; have n0_ := Aside0.mk (Kd.R_lower ho0 (below_size (by repeat (first | (with_reducible first | exact HB.out | apply below_alloc | apply pw_below_drewN | apply below_drew1 | refine below_set ?_ GE532.out | refine below_set ?_ GE533.out | refine below_set ?_ GE534.out) | exact HB.out)))); have n1_ := Aside0.mk (Kd.R_lower ho1 (below_size (by repeat (first | (with_reducible first | exact HB.out | apply below_alloc | apply pw_below_drewN | apply below_drew1 | refine below_set ?_ GE532.out | refine below_set ?_ GE533.out | refine below_set ?_ GE534.out) | exact HB.out)))); have n2_ := Aside0.mk (blk_below (g := gb532) (o := .cells #[.slice A0_0 l0_0.length c0_0, .slice A0_1 l0_1.length c0_1] 26 (0, 0)) (by (with_reducible repeat (first | refine blk_drewN ?_ _ | refine blk_drew ?_ | refine blk_alloc ?_ _)); exact BK532.out) hb); have n3_ := Aside0.mk (blk_below (g := gb533) (o := .cells #[.slice (some ad543) l1_0.length c1_0, .slice A1_1 l1_1.length c1_1] 26 (0, 0)) (by (with_reducible repeat (first | refine blk_drewN ?_ _ | refine blk_drew ?_ | refine blk_alloc ?_ _)); exact BK533.out) hb); have n4_ := Aside0.mk (blk_below (g := gb534) (o := .cells #[.slice none 0 0, .slice none 0 0] 26 (0, 0)) (by (with_reducible repeat (first | refine blk_drewN ?_ _ | refine blk_drew ?_ | refine blk_alloc ?_ _)); exact BK534.out) hb); have n5_ := Aside0.mk (below_step (by repeat (first | (with_reducible first | exact HB.out | apply below_alloc | apply pw_below_drewN | apply below_drew1 | refine below_set ?_ GE532.out | refine below_set ?_ GE533.out | refine below_set ?_ GE534.out) | exact HB.out)) hb); clear BK532; clear BK533; clear BK534; clear HB; have HO546 := n0_; have HO549 := n1_; have BK532 := n2_; have BK533 := n3_; have BK534 := n4_; have HB := n5_; clear n0_ n1_ n2_ n3_ n4_ n5_; (try clear hb); (try clear hb2); (try clear hk); (try clear hi); (try clear ho0); (try clear ho1); obtain ⟨Ao46, co46, eo46⟩ := Kd.R_slice HO546.out; subst eo46; have hcz47_0 : w45.cell? ⟨gb534, 0, none⟩ = some (.slice none 0 0) := (blk_cell BK534.out 0).trans rfl; have hcz47_1 : w45.cell? ⟨gb534, 1, none⟩ = some (.slice none 0 0) := (blk_cell BK534.out 1).trans rfl; have hfz47_0 := blk_frozen BK534.out 0; have hfz47_1 := blk_frozen BK534.out 1; obtain ⟨Ao48, co48, eo48⟩ := Kd.R_slice HO549.out; subst eo48))
                refine bodyPost_ret (results_ct rfl _ _ gb534 26 #[.slice Ao46 t544.length co46, .slice Ao48 t547.length co48] (0, 0) _ rfl (by (with_reducible repeat (first | refine blk_drewN ?_ _ | refine blk_drew ?_ | refine blk_alloc ?_ _)); refine blk_put (cs := #[.slice Ao46 t544.length co46, .slice none 0 0]) ?_ 1 _ rfl; (with_reducible repeat (first | refine blk_drewN ?_ _ | refine blk_drew ?_ | refine blk_alloc ?_ _)); refine blk_put (cs := #[.slice none 0 0, .slice none 0 0]) ?_ 0 _ rfl; (with_reducible repeat (first | refine blk_drewN ?_ _ | refine blk_drew ?_ | refine blk_alloc ?_ _)); exact BK534.out) Try.underlying26 rfl (by kernel_rfl)) rfl ?_
                exact ⟨_, _, by first | rfl | (simp [errW_none, errW_some] <;> rfl) | (simp [*, errW_none, errW_some] <;> rfl), by (with_reducible repeat (first | apply Kd.R_alloc | apply Kd.R_drewN | apply Kd.R_drew)); exact Kd.R_mono (Kd.R_far (p := ⟨gb534, 1, none⟩) (Kd.R_far (p := ⟨gb534, 0, none⟩) (Kd.R_types HO546.out BK534.out (by decide)) (fun _ hk => hk.2) (.slice Ao46 t544.length co46)) (fun _ hk => hk.2) (.slice Ao48 t547.length co48)) (fun _ hk => hk.1), by (with_reducible repeat (first | apply Kd.R_alloc | apply Kd.R_drewN | apply Kd.R_drew)); exact Kd.R_mono (Kd.R_far (p := ⟨gb534, 1, none⟩) (Kd.R_far (p := ⟨gb534, 0, none⟩) (Kd.R_types HO549.out BK534.out (by decide)) (fun _ hk => hk.2) (.slice Ao46 t544.length co46)) (fun _ hk => hk.2) (.slice Ao48 t547.length co48)) (fun _ hk => hk.1), by repeat (first | (with_reducible first | exact HB.out | apply below_alloc | apply pw_below_drewN | apply below_drew1 | refine below_set ?_ GE532.out | refine below_set ?_ GE533.out | refine below_set ?_ GE534.out) | exact HB.out)⟩
              · rw [if_neg c38] at H
                have c38b0 : ((rd l1_0 0) == 0) = false := beq_eq_false_iff_ne.mpr c38
                have c38b1 : ((rd l1_0 0) != 0) = true := bne_iff_ne.mpr c38
                replace H := Option.bind_eq_some_iff.mp H
                obtain ⟨t550, A490, H⟩ := H
                replace H : (if 0 < (l0_1.length : Int) then (if (t550.length : Int) = 0 then (none) else (spec_Rotate.l0 kj2 t550 (t550.length : Int) (Int.tmod (wrap64 ((Int.tmod (rd l0_1 0) (t550.length : Int)) + (t550.length : Int))) (t550.length : Int)) (([] : List (S26))) 0 l1_0 l1_1)) else (none)) = some (r1, r2, r3) := H
                have A49 := Aside0.mk A490
                clear A490
                by_cases c50 : 0 < (l0_1.length : Int)
                · rw [if_pos c50] at H
                  have c50b0 : decide (0 < (l0_1.length : Int)) = true := decide_eq_true c50
                  have c50b1 : decide (0 < l0_1.length) = true := decide_eq_true (by omega)
                  clear c50
                  by_cases c51 : (t550.length : Int) = 0
                  · rw [if_pos c51] at H
                    exact absurd H (by simp)
                  · rw [if_neg c51] at H
                    have c51b0 : ((t550.length : Int) == 0) = false := beq_eq_false_iff_ne.mpr c51
                    have c51b1 : ((t550.length : Int) != 0) = true := bne_iff_ne.mpr c51
                    have c51b2 : ¬ (t550 = []) := fun h_ => c51 (by rw [h_]; rfl)
                    obtain ⟨y554, hy554⟩ : ∃ y_ : List (S26), y_ = (([] : List (S26))) := ⟨_, rfl⟩
                    replace H : (spec_Rotate.l0 kj2 t550 (t550.length : Int) (Int.tmod (wrap64 ((Int.tmod (rd l0_1 0) (t550.length : Int)) + (t550.length : Int))) (t550.length : Int)) y554 0 l1_0 l1_1) = some (r1, r2, r3) := by first | (rw [hy554]; with_reducible exact H) | (have H2_ := (Option.bind_some _ _).symm.trans H; rw [hy554]; with_reducible exact H2_) | (have H2_ := (Option.bind_some _ _).symm.trans H; with_reducible exact H2_) | with_reducible exact H | (rw [hy554]; exact H) | exact H
                    have Ny554 := Aside0.mk hy554
                    clear hy554
                    have H' := Aside0.mk H
                    clear H
                    have hnb52 := NB532_533.out
                    have hnc52 := NB533_532.out
                    have hnb53 := NB532_534.out
                    have hnc53 := NB534_532.out
                    have hcz54_0 : wc.cell? ⟨gb532, 0, none⟩ = some (.slice A0_0 l0_0.length c0_0) := (blk_cell BK532.out 0).trans rfl
                    have hcz54_1 : wc.cell? ⟨gb532, 1, none⟩ = some (.slice A0_1 l0_1.length c0_1) := (blk_cell BK532.out 1).trans rfl
                    have hfz54_0 := blk_frozen BK532.out 0
                    have hfz54_1 := blk_frozen BK532.out 1
                    have hnb55 := NB533_534.out
                    have hnc55 := NB534_533.out
                    have hcz56_0 : wc.cell? ⟨gb533, 0, none⟩ = some (.slice A1_0 l1_0.length c1_0) := (blk_cell BK533.out 0).trans rfl
                    have hcz56_1 : wc.cell? ⟨gb533, 1, none⟩ = some (.slice A1_1 l1_1.length c1_1) := (blk_cell BK533.out 1).trans rfl
                    have hfz56_0 := blk_frozen BK533.out 0
                    have hfz56_1 := blk_frozen BK533.out 1
                    have p543 : 0 ≤ (0 : Int) := (by omega)
                    have q543 : 0 < (l1_0.length : Int) := of_decide_eq_true (by first | (with_reducible assumption) | assumption)
                    obtain ⟨ad543, e543, hx543_0⟩ := Kd.at_int HR1_0.out 0 p543 q543
                    cases e543
                    have qi543 : (0 < l1_0.length) = True := eq_true (by omega)
                    (try rw [show ((0 : Int)).toNat = 0 from rfl] at hx543_0)
                    (try rw [Addr.add_zero'] at hx543_0)
                    replace hx543_0 := (HB.out.cell (World.block_lt_of_cell? w _ hx543_0)).trans hx543_0
                    replace p543 := eq_true p543
                    replace q543 := eq_true q543
                    go_wp2_with (first | ((with_reducible refine gate_callee (f := 40) rfl ?_); refine goesL_ (some 42) rfl rfl Try.func40 (by kernel_rfl) rfl #[.agg #[.slice (some ad543) l1_0.length c1_0, .slice A1_1 l1_1.length c1_1]] rfl (by (try simp only [List.map_toArray, List.map_cons, List.map_nil]); first | done | rfl | (simp only [List.length_drop, List.length_take]; rfl)) ?_; (with_reducible refine (spec_l3Rows.calls kj2 _ _ l1_0 _ _ l1_1 t550 _ ?side1 ?side2 ?side3 ?side4 A49.out).mono ?_); (case side1 => repeat (first | exact (Kd.C_below HR1_0.out HB.out) | (with_reducible refine Kd.C_alloc ?_ _) | (with_reducible refine Kd.C_drewN ?_ _) | (with_reducible refine Kd.C_drew ?_))); (case side2 => exact HC1_0.out); (case side3 => repeat (first | exact (Kd.C_below HR1_1.out HB.out) | (with_reducible refine Kd.C_alloc ?_ _) | (with_reducible refine Kd.C_drewN ?_ _) | (with_reducible refine Kd.C_drew ?_))); (case side4 => exact HC1_1.out); rintro e w57 ⟨v551, rfl, ho0, hb⟩; refine ⟨_, rfl, ?_⟩; have n0_ := Aside0.mk (Kd.N_lower (Kd.N_mono (ok' := fun k_ => k_ ≠ gb532 ∧ k_ ≠ gb533 ∧ k_ ≠ gb534) (Kd.S_N (Kd.S_bound ho0)) (fun k_ hk_ => ⟨(Kd.freshB (g := gb532) (o := .cells #[.slice A0_0 l0_0.length c0_0, .slice A0_1 l0_1.length c0_1] 26 (0, 0)) (by (with_reducible repeat (first | refine blk_drewN ?_ _ | refine blk_drew ?_ | refine blk_alloc ?_ _)); exact BK532.out) k_ hk_.2.1), (Kd.freshB (g := gb533) (o := .cells #[.slice (some ad543) l1_0.length c1_0, .slice A1_1 l1_1.length c1_1] 26 (0, 0)) (by (with_reducible repeat (first | refine blk_drewN ?_ _ | refine blk_drew ?_ | refine blk_alloc ?_ _)); exact BK533.out) k_ hk_.2.1), (Kd.freshB (g := gb534) (o := .cells #[.slice none 0 0, .slice none 0 0] 26 (0, 0)) (by (with_reducible repeat (first | refine blk_drewN ?_ _ | refine blk_drew ?_ | refine blk_alloc ?_ _)); exact BK534.out) k_ hk_.2.1)⟩)) (below_size (by repeat (first | (with_reducible first | exact HB.out | apply below_alloc | apply pw_below_drewN | apply below_drew1 | refine below_set ?_ GE532.out | refine below_set ?_ GE533.out | refine below_set ?_ GE534.out) | exact HB.out)))); have n1_ := Aside0.mk (blk_below (g := gb532) (o := .cells #[.slice A0_0 l0_0.length c0_0, .slice A0_1 l0_1.length c0_1] 26 (0, 0)) (by (with_reducible repeat (first | refine blk_drewN ?_ _ | refine blk_drew ?_ | refine blk_alloc ?_ _)); exact BK532.out) hb); have n2_ := Aside0.mk (blk_below (g := gb533) (o := .cells #[.slice (some ad543) l1_0.length c1_0, .slice A1_1 l1_1.length c1_1] 26 (0, 0)) (by (with_reducible repeat (first | refine blk_drewN ?_ _ | refine blk_drew ?_ | refine blk_alloc ?_ _)); exact BK533.out) hb); have n3_ := Aside0.mk (blk_below (g := gb534) (o := .cells #[.slice none 0 0, .slice none 0 0] 26 (0, 0)) (by (with_reducible repeat (first | refine blk_drewN ?_ _ | refine blk_drew ?_ | refine blk_alloc ?_ _)); exact BK534.out) hb); have n4_ := Aside0.mk (below_step (by repeat (first | (with_reducible first | exact HB.out | apply below_alloc | apply pw_below_drewN | apply below_drew1 | refine below_set ?_ GE532.out | refine below_set ?_ GE533.out | refine below_set ?_ GE534.out) | exact HB.out)) hb); clear BK532; clear BK533; clear BK534; clear HB; have HO552 := n0_; have BK532 := n1_; have BK533 := n2_; have BK534 := n3_; have HB := n4_; clear n0_ n1_ n2_ n3_ n4_; (try clear hb); (try clear hb2); (try clear hk); (try clear hi); (try clear ho0); obtain ⟨Ao58, co58, eo58⟩ := Kd.N_slice HO552.out; subst eo58; have hcz59_0 : w57.cell? ⟨gb532, 0, none⟩ = some (.slice A0_0 l0_0.length c0_0) := (blk_cell BK532.out 0).trans rfl; have hcz59_1 : w57.cell? ⟨gb532, 1, none⟩ = some (.slice A0_1 l0_1.length c0_1) := (blk_cell BK532.out 1).trans rfl; have hfz59_0 := blk_frozen BK532.out 0; have hfz59_1 := blk_frozen BK532.out 1; have p553 : 0 ≤ (0 : Int) := (by omega); have q553 : 0 < (l0_1.length : Int) := of_decide_eq_true (by first | (with_reducible assumption) | assumption); obtain ⟨ad553, e553, hx553_0⟩ := Kd.at_int HR0_1.out 0 p553 q553; cases e553; have qi553 : (0 < l0_1.length) = True := eq_true (by omega); (try rw [show ((0 : Int)).toNat = 0 from rfl] at hx553_0); (try rw [Addr.add_zero'] at hx553_0); replace hx553_0 := (HB.out.cell (World.block_lt_of_cell? w _ hx553_0)).trans hx553_0; replace p553 := eq_true p553; replace q553 := eq_true q553) | ((with_reducible refine gate_dst (N := 55) rfl ?_); refine Kd.N_lit k26 _ 26 ?hg (N' := 55) ?hd (xs := ([] : List (S26))) (inner := []) (ok := (fun k_ => some k_ ≠ (.slice Ao58 t550.length co58 : Value).ownBlock ∧ k_ ≠ gb532 ∧ k_ ≠ gb533 ∧ k_ ≠ gb534)) (okp := (fun k_ => some k_ ≠ (.slice Ao58 t550.length co58 : Value).ownBlock ∧ k_ ≠ gb532 ∧ k_ ≠ gb533 ∧ k_ ≠ gb534)) ?hr ?hp (fun _ hk => hk) ((show ∀ k_, w57.heap.size ≤ k_ → (fun k_ => some k_ ≠ (.slice Ao58 t550.length co58 : Value).ownBlock ∧ k_ ≠ gb532 ∧ k_ ≠ gb533 ∧ k_ ≠ gb534) k_ from fun k_ hk => ⟨Kd.fresh' (Kd.N_lt (by (with_reducible repeat (first | apply Kd.N_alloc | apply Kd.N_drewN | apply Kd.N_drew)); exact HO552.out)) k_ hk, Kd.freshB (g := gb532) (o := .cells #[.slice A0_0 l0_0.length c0_0, .slice (some ad553) l0_1.length c0_1] 26 (0, 0)) (by (with_reducible repeat (first | refine blk_drewN ?_ _ | refine blk_drew ?_ | refine blk_alloc ?_ _)); exact BK532.out) k_ hk, Kd.freshB (g := gb533) (o := .cells #[.slice (some ad543) l1_0.length c1_0, .slice A1_1 l1_1.length c1_1] 26 (0, 0)) (by (with_reducible repeat (first | refine blk_drewN ?_ _ | refine blk_drew ?_ | refine blk_alloc ?_ _)); exact BK533.out) k_ hk, Kd.freshB (g := gb534) (o := .cells #[.slice none 0 0, .slice none 0 0] 26 (0, 0)) (by (with_reducible repeat (first | refine blk_drewN ?_ _ | refine blk_drew ?_ | refine blk_alloc ?_ _)); exact BK534.out) k_ hk⟩) _ (Nat.le_refl _)) (Below.refl _ _) (Nat.le_refl _) (by simp) ?_; (case hd => rfl); (case hg => rfl); (case hr => first | (go_simp; done) | (go_simp; rfl)); (case hp => exact (Reps.none _ _)); intro v555 w60 ho61 hb hg_ hnew_; clear hg_ hnew_; (first | rw [← Ny554.out] at ho61 | (simp only [Int.reduceToNat] at ho61; rw [← Ny554.out] at ho61)); have n0_ := Aside0.mk (Kd.N_elder' (by (with_reducible repeat (first | apply Kd.N_alloc | apply Kd.N_drewN | apply Kd.N_drew)); exact HO552.out) (Kd.N_base ho61) hb); have n1_ := Aside0.mk (Kd.N_lower ho61 (below_size (by repeat (first | (with_reducible first | exact HB.out | apply below_alloc | apply pw_below_drewN | apply below_drew1 | refine below_set ?_ GE532.out | refine below_set ?_ GE533.out | refine below_set ?_ GE534.out) | exact HB.out)))); have n2_ := Aside0.mk (blk_below (g := gb532) (o := .cells #[.slice A0_0 l0_0.length c0_0, .slice (some ad553) l0_1.length c0_1] 26 (0, 0)) (by (with_reducible repeat (first | refine blk_drewN ?_ _ | refine blk_drew ?_ | refine blk_alloc ?_ _)); exact BK532.out) hb); have n3_ := Aside0.mk (blk_below (g := gb533) (o := .cells #[.slice (some ad543) l1_0.length c1_0, .slice A1_1 l1_1.length c1_1] 26 (0, 0)) (by (with_reducible repeat (first | refine blk_drewN ?_ _ | refine blk_drew ?_ | refine blk_alloc ?_ _)); exact BK533.out) hb); have n4_ := Aside0.mk (blk_below (g := gb534) (o := .cells #[.slice none 0 0, .slice none 0 0] 26 (0, 0)) (by (with_reducible repeat (first | refine blk_drewN ?_ _ | refine blk_drew ?_ | refine blk_alloc ?_ _)); exact BK534.out) hb); have n5_ := Aside0.mk (below_step (by repeat (first | (with_reducible first | exact HB.out | apply below_alloc | apply pw_below_drewN | apply below_drew1 | refine below_set ?_ GE532.out | refine below_set ?_ GE533.out | refine below_set ?_ GE534.out) | exact HB.out)) hb); clear HO552; clear BK532; clear BK533; clear BK534; clear HB; have HO552 := n0_; have HO556 := n1_; have BK532 := n2_; have BK533 := n3_; have BK534 := n4_; have HB := n5_; clear n0_ n1_ n2_ n3_ n4_ n5_; clear hb ho61))
                    go_loopg [9, 10] kj2 (fun kq v9 v10 w' => ∃ (x9_2 : List (S26)) (x10_2 : Int), v10 = .int .i64 x10_2 ∧ Aside0 (spec_Rotate.l0 kq t550 (t550.length : Int) (Int.tmod (wrap64 ((Int.tmod (rd l0_1 0) (t550.length : Int)) + (t550.length : Int))) (t550.length : Int)) x9_2 x10_2 l1_0 l1_1 = some (r1, r2, r3)) ∧ Aside0 (kq ≤ kj2) ∧ Aside0 (Kd.N k26 26 w' w.heap.size (fun k_ => some k_ ≠ (v9 : Value).ownBlock ∧ k_ ≠ gb532 ∧ k_ ≠ gb533 ∧ k_ ≠ gb534) (.slice Ao58 t550.length co58) t550) ∧ Aside0 (Kd.N k26 26 w' w.heap.size (fun k_ => some k_ ≠ ((.slice Ao58 t550.length co58) : Value).ownBlock ∧ k_ ≠ gb532 ∧ k_ ≠ gb533 ∧ k_ ≠ gb534) v9 x9_2) ∧ Aside0 (w'.heap[gb532]? = some (.cells #[(.slice A0_0 l0_0.length c0_0), (.slice (some ad553) l0_1.length c0_1)] 26 (0, 0))) ∧ Aside0 (w'.heap[gb533]? = some (.cells #[(.slice (some ad543) l1_0.length c1_0), (.slice A1_1 l1_1.length c1_1)] 26 (0, 0))) ∧ Aside0 (w'.heap[gb534]? = some (.cells #[(.slice none 0 0), (.slice none 0 0)] 26 (0, 0))) ∧ Aside0 (Below w.heap.size w w'))
                    case atStart => exact ⟨(y554), (0), (by first | rfl | (simp; done) | (simp [*]; done)), H', ⟨Nat.le_refl _⟩, ⟨by (with_reducible repeat (first | apply Kd.N_alloc | apply Kd.N_drewN | apply Kd.N_drew)); exact Kd.N_mono HO552.out (fun _ hk => ⟨hk.2, ⟨hk.1.1, ⟨hk.1.2.1, hk.1.2.2⟩⟩⟩)⟩, ⟨by (with_reducible repeat (first | apply Kd.N_alloc | apply Kd.N_drewN | apply Kd.N_drew)); exact HO556.out⟩, ⟨by (with_reducible repeat (first | refine blk_drewN ?_ _ | refine blk_drew ?_ | refine blk_alloc ?_ _)); exact BK532.out⟩, ⟨by (with_reducible repeat (first | refine blk_drewN ?_ _ | refine blk_drew ?_ | refine blk_alloc ?_ _)); exact BK533.out⟩, ⟨by (with_reducible repeat (first | refine blk_drewN ?_ _ | refine blk_drew ?_ | refine blk_alloc ?_ _)); exact BK534.out⟩, ⟨by repeat (first | (with_reducible first | exact HB.out | apply below_alloc | apply pw_below_drewN | apply below_drew1 | refine below_set ?_ GE532.out | refine below_set ?_ GE533.out | refine below_set ?_ GE534.out) | exact HB.out)⟩⟩
                    case round =>
                      clear H'
                      try clear c1
                      try clear c2
                      try clear p2
                      try clear c3
                      try clear c4
                      try clear c5
                      try clear p5
                      try clear q5
                      try clear hx5
                      try clear qi5
                      try clear p6
                      try clear c8
                      try clear c10
                      try clear c11
                      try clear c14
                      try clear c15
                      try clear c17
                      try clear c18
                      try clear c20
                      try clear c21
                      try clear c22
                      try clear c23
                      try clear c25
                      try clear c25b0
                      try clear c25b1
                      try clear c26
                      try clear c26b0
                      try clear c26b1
                      try clear c26b2
                      try clear c28
                      try clear c29
                      try clear c31
                      try clear c37
                      try clear c37b0
                      try clear c37b1
                      try clear c38
                      try clear c38b0
                      try clear c38b1
                      try clear c39
                      try clear c40
                      try clear c41
                      try clear c43
                      try clear c50
                      try clear c50b0
                      try clear c50b1
                      try clear c51
                      try clear c51b0
                      try clear c51b1
                      try clear c51b2
                      try clear c52
                      try clear c53
                      try clear p54
                      try clear q54
                      try clear hx54
                      try clear qi54
                      try clear c55
                      try clear p55
                      try clear q55
                      try clear hx55
                      try clear qi55
                      try clear hcz12_0
                      try clear hcz12_1
                      try clear hcz15_0
                      try clear hcz15_1
                      try clear hcz19_0
                      try clear hcz19_1
                      try clear hcz24_0
                      try clear hcz24_1
                      try clear hcz30_0
                      try clear hcz30_1
                      try clear hcz32_0
                      try clear hcz32_1
                      try clear hcz35_0
                      try clear hcz35_1
                      try clear hcz42_0
                      try clear hcz42_1
                      try clear hcz44_0
                      try clear hcz44_1
                      try clear hcz47_0
                      try clear hcz47_1
                      try clear hcz54_0
                      try clear hcz54_1
                      try clear hcz56_0
                      try clear hcz56_1
                      try clear hcz59_0
                      try clear hcz59_1
                      try clear hfz12_0
                      try clear hfz12_1
                      try clear hfz15_0
                      try clear hfz15_1
                      try clear hfz19_0
                      try clear hfz19_1
                      try clear hfz24_0
                      try clear hfz24_1
                      try clear hfz30_0
                      try clear hfz30_1
                      try clear hfz32_0
                      try clear hfz32_1
                      try clear hfz35_0
                      try clear hfz35_1
                      try clear hfz42_0
                      try clear hfz42_1
                      try clear hfz44_0
                      try clear hfz44_1
                      try clear hfz47_0
                      try clear hfz47_1
                      try clear hfz54_0
                      try clear hfz54_1
                      try clear hfz56_0
                      try clear hfz56_1
                      try clear hfz59_0
                      try clear hfz59_1
                      try clear hx543_0
                      try clear hx553_0
                      try clear p2
                      try clear p543
                      try clear p553
                      try clear q543
                      try clear q553
                      obtain ⟨x9_2, x10_2, rfl, HA, HK2, HO_6, HO_9, BK532, BK533, BK534, HB⟩ := hrel
                      cases gk with
                      | zero => exact absurd HA.out (by simp [spec_Rotate.l0])
                      | succ k2 =>
                        have H := HA.out
                        clear HA
                        simp only [spec_Rotate.l0] at H
                        by_cases c62 : x10_2 < (t550.length : Int)
                        · rw [if_pos c62] at H
                          have c62b0 : decide (x10_2 < (t550.length : Int)) = true := decide_eq_true c62
                          clear c62
                          by_cases c63 : (t550.length : Int) = 0
                          · rw [if_pos c63] at H
                            exact absurd H (by simp)
                          · rw [if_neg c63] at H
                            have c63b0 : ((t550.length : Int) == 0) = false := beq_eq_false_iff_ne.mpr c63
                            have c63b1 : ((t550.length : Int) != 0) = true := bne_iff_ne.mpr c63
                            have c63b2 : ¬ (t550 = []) := fun h_ => c63 (by rw [h_]; rfl)
                            obtain ⟨ji64, hji64⟩ : ∃ j_ : Int, (Int.tmod (wrap64 (x10_2 + (Int.tmod (wrap64 ((Int.tmod (rd l0_1 0) (t550.length : Int)) + (t550.length : Int))) (t550.length : Int)))) (t550.length : Int)) = j_ := ⟨_, rfl⟩
                            replace H : (if 0 ≤ (ji64) then (if (ji64) < (t550.length : Int) then (if x9_2.length < 2932031007402 then (spec_Rotate.l0 k2 t550 (t550.length : Int) (Int.tmod (wrap64 ((Int.tmod (rd l0_1 0) (t550.length : Int)) + (t550.length : Int))) (t550.length : Int)) (x9_2 ++ [(⟨(rd_T26 t550 (ji64)).f0, (rd_T26 t550 (ji64)).f1⟩ : S26)]) (wrap64 (x10_2 + 1)) l1_0 l1_1) else (none)) else (none)) else (none)) = some (r1, r2, r3) := by first | (rw [hji64] at H; exact H) | (simp only [hji64] at H ⊢; exact H)
                            by_cases c65 : 0 ≤ (ji64)
                            · rw [if_pos c65] at H
                              have c65b0 : decide (0 ≤ (ji64)) = true := decide_eq_true c65
                              clear c65
                              by_cases c66 : (ji64) < (t550.length : Int)
                              · rw [if_pos c66] at H
                                have c66b0 : decide ((ji64) < (t550.length : Int)) = true := decide_eq_true c66
                                clear c66
                                by_cases c67 : x9_2.length < 2932031007402
                                · rw [if_pos c67] at H
                                  have LMc67 := Aside0.mk c67
                                  clear c67
                                  obtain ⟨y558, hy558⟩ : ∃ y_ : List (S26), y_ = (x9_2 ++ [(⟨(rd_T26 t550 (ji64)).f0, (rd_T26 t550 (ji64)).f1⟩ : S26)]) := ⟨_, rfl⟩
                                  replace H : (spec_Rotate.l0 k2 t550 (t550.length : Int) (Int.tmod (wrap64 ((Int.tmod (rd l0_1 0) (t550.length : Int)) + (t550.length : Int))) (t550.length : Int)) y558 (wrap64 (x10_2 + 1)) l1_0 l1_1) = some (r1, r2, r3) := by first | (rw [hy558]; with_reducible exact H) | (have H2_ := (Option.bind_some _ _).symm.trans H; rw [hy558]; with_reducible exact H2_) | (have H2_ := (Option.bind_some _ _).symm.trans H; with_reducible exact H2_) | with_reducible exact H | (rw [hy558]; exact H) | exact H
                                  have Ny558 := Aside0.mk hy558
                                  clear hy558
                                  have H' := Aside0.mk H
                                  clear H
                                  have p557 : 0 ≤ ((ji64) : Int) := of_decide_eq_true (by first | (with_reducible assumption) | assumption)
                                  have q557 : (ji64) < (t550.length : Int) := of_decide_eq_true (by first | (with_reducible assumption) | assumption)
                                  obtain ⟨ad557, A557_0, c557_0, A557_1, c557_1, e557, hx557_0, hx557_1, hl557_0, hi557_0, hl557_1, hi557_1⟩ := at_T26 (Kd.N_reads' HO_6.out).2.2 (ji64) p557 q557
                                  cases e557
                                  obtain ⟨ce557, hce557, hMe557, hcc557⟩ := Kd.N_get HO_6.out z26 (ji64) p557 (by first | exact q557 | exact of_decide_eq_true (by first | (with_reducible assumption) | assumption) | (have e_ := (Kd.N_reads' HO_6.out).1; omega))
                                  obtain ⟨ua557_0, uc557_0, ua557_1, uc557_1, rfl, ul557_0, ge557_0, ul557_1, ge557_1⟩ := k26_openF hMe557
                                  have hv557_0 := hcc557 0 _ rfl
                                  rw [Nat.add_zero] at hv557_0
                                  replace hv557_0 := Option.some.inj (hv557_0.symm.trans hx557_0)
                                  injection hv557_0 with hva_ hvn_ hvc_
                                  rw [hva_] at ge557_0
                                  rw [hvc_] at ul557_0
                                  have HL557_0 := Aside0.mk (show Kd.V (Kd.int .i64) 3 _ w.heap.size _ _ ((rd_T26 t550 (ji64)).f0) from Kd.V_mk ul557_0 ge557_0)
                                  clear hva_ hvn_ hvc_ ge557_0 ul557_0
                                  have hv557_1 := hcc557 1 _ rfl
                                  rw [add_field _ _ 1 (by omega)] at hv557_1
                                  replace hv557_1 := Option.some.inj (hv557_1.symm.trans hx557_1)
                                  injection hv557_1 with hva_ hvn_ hvc_
                                  rw [hva_] at ge557_1
                                  rw [hvc_] at ul557_1
                                  have HL557_1 := Aside0.mk (show Kd.V (Kd.int .i64) 3 _ w.heap.size _ _ ((rd_T26 t550 (ji64)).f1) from Kd.V_mk ul557_1 ge557_1)
                                  clear hva_ hvn_ hvc_ ge557_1 ul557_1
                                  clear hcc557 hce557
                                  have HR557_0 := Aside0.mk hi557_0
                                  have HC557_0 := Aside0.mk hl557_0
                                  clear hi557_0 hl557_0
                                  have HR557_1 := Aside0.mk hi557_1
                                  have HC557_1 := Aside0.mk hl557_1
                                  clear hi557_1 hl557_1
                                  replace p557 := eq_true p557
                                  replace q557 := eq_true q557
                                  go_wp2_with (first | ((with_reducible refine gate_builtin (b := .append) (xs := #[.tmp 61, .tmp 70]) rfl ?_); at_builtin; refine Kd.N_append k26 (w0 := w) w.heap.size rfl (.tmp 61) (.tmp 70) 38 26 (.agg #[(.slice none 0 0), (.slice none 0 0)]) 48 rfl Try.underlying38 info26 rfl (by decide) (by omega) u9 x9_2 (⟨(rd_T26 t550 (ji64)).f0, (rd_T26 t550 (ji64)).f1⟩ : S26) [.slice A557_0 ((rd_T26 t550 (ji64)).f0).length c557_0, .slice A557_1 ((rd_T26 t550 (ji64)).f1).length c557_1] (fun k_ => some k_ ≠ (.slice (some ad557) t550.length co58 : Value).ownBlock ∧ k_ ≠ gb532 ∧ k_ ≠ gb533 ∧ k_ ≠ gb534) (fun k_ => ((fun k_ => some k_ ≠ (.slice (some ad557) t550.length co58 : Value).ownBlock ∧ k_ ≠ gb532 ∧ k_ ≠ gb533 ∧ k_ ≠ gb534)) k_ ∧ some k_ ≠ (u9 : Value).ownBlock) rfl rfl ?aP (fun _ hk => hk) ?aF ?aO ?aB ?aS ?aL ?_; (case aP => exact (k26_mkF _ _ (⟨(rd_T26 t550 (ji64)).f0, (rd_T26 t550 (ji64)).f1⟩ : S26) (Kd.V_reads' (Kd.V_mono (ok' := (fun k_ => ((fun k_ => some k_ ≠ (.slice (some ad557) t550.length co58 : Value).ownBlock ∧ k_ ≠ gb532 ∧ k_ ≠ gb533 ∧ k_ ≠ gb534)) k_ ∧ some k_ ≠ (u9 : Value).ownBlock)) (HL557_0.out) (fun k_ hk => ⟨⟨hk.2, ⟨hk.1.2.1, ⟨hk.1.2.2.1, hk.1.2.2.2⟩⟩⟩, hk.1.1⟩))).2.1 (Kd.V_F (Kd.V_mono (ok' := (fun k_ => ((fun k_ => some k_ ≠ (.slice (some ad557) t550.length co58 : Value).ownBlock ∧ k_ ≠ gb532 ∧ k_ ≠ gb533 ∧ k_ ≠ gb534)) k_ ∧ some k_ ≠ (u9 : Value).ownBlock)) (HL557_0.out) (fun k_ hk => ⟨⟨hk.2, ⟨hk.1.2.1, ⟨hk.1.2.2.1, hk.1.2.2.2⟩⟩⟩, hk.1.1⟩))) (Kd.V_reads' (Kd.V_mono (ok' := (fun k_ => ((fun k_ => some k_ ≠ (.slice (some ad557) t550.length co58 : Value).ownBlock ∧ k_ ≠ gb532 ∧ k_ ≠ gb533 ∧ k_ ≠ gb534)) k_ ∧ some k_ ≠ (u9 : Value).ownBlock)) (HL557_1.out) (fun k_ hk => ⟨⟨hk.2, ⟨hk.1.2.1, ⟨hk.1.2.2.1, hk.1.2.2.2⟩⟩⟩, hk.1.1⟩))).2.1 (Kd.V_F (Kd.V_mono (ok' := (fun k_ => ((fun k_ => some k_ ≠ (.slice (some ad557) t550.length co58 : Value).ownBlock ∧ k_ ≠ gb532 ∧ k_ ≠ gb533 ∧ k_ ≠ gb534)) k_ ∧ some k_ ≠ (u9 : Value).ownBlock)) (HL557_1.out) (fun k_ hk => ⟨⟨hk.2, ⟨hk.1.2.1, ⟨hk.1.2.2.1, hk.1.2.2.2⟩⟩⟩, hk.1.1⟩))))); (case aB => exact (by repeat (first | (with_reducible first | exact HB.out | apply below_alloc | apply pw_below_drewN | apply below_drew1 | refine below_set ?_ GE532.out | refine below_set ?_ GE533.out | refine below_set ?_ GE534.out) | exact HB.out))); (case aF => exact (fun k_ hk => ⟨Kd.fresh' (Kd.N_lt (by (with_reducible repeat (first | apply Kd.N_alloc | apply Kd.N_drewN | apply Kd.N_drew)); exact HO_6.out)) k_ hk, Kd.freshB (g := gb532) (o := .cells #[.slice A0_0 l0_0.length c0_0, .slice (some ad553) l0_1.length c0_1] 26 (0, 0)) (by (with_reducible repeat (first | refine blk_drewN ?_ _ | refine blk_drew ?_ | refine blk_alloc ?_ _)); exact BK532.out) k_ hk, Kd.freshB (g := gb533) (o := .cells #[.slice (some ad543) l1_0.length c1_0, .slice A1_1 l1_1.length c1_1] 26 (0, 0)) (by (with_reducible repeat (first | refine blk_drewN ?_ _ | refine blk_drew ?_ | refine blk_alloc ?_ _)); exact BK533.out) k_ hk, Kd.freshB (g := gb534) (o := .cells #[.slice none 0 0, .slice none 0 0] 26 (0, 0)) (by (with_reducible repeat (first | refine blk_drewN ?_ _ | refine blk_drew ?_ | refine blk_alloc ?_ _)); exact BK534.out) k_ hk⟩)); (case aO => exact (by (with_reducible repeat (first | apply Kd.N_alloc | apply Kd.N_drewN | apply Kd.N_drew)); exact HO_9.out)); (case aS => exact (below_size (by repeat (first | (with_reducible first | exact HB.out | apply below_alloc | apply pw_below_drewN | apply below_drew1 | refine below_set ?_ GE532.out | refine below_set ?_ GE533.out | refine below_set ?_ GE534.out) | exact HB.out)))); (case aL => have := LMc67.out; omega); intro v559 w68 ho hb hg hat; rw [← Ny558.out] at ho; have n0_ := Aside0.mk (Kd.N_afterv (ok := (fun k_ => k_ ≠ gb532 ∧ k_ ≠ gb533 ∧ k_ ≠ gb534)) (by (with_reducible repeat (first | apply Kd.N_alloc | apply Kd.N_drewN | apply Kd.N_drew)); exact Kd.N_mono HO_6.out (fun _ hk => ⟨⟨hk.2.1, ⟨hk.2.2.1, hk.2.2.2⟩⟩, hk.1⟩)) hg hat); have n1_ := Aside0.mk (blk_grown (g := gb532) (o := .cells #[.slice A0_0 l0_0.length c0_0, .slice (some ad553) l0_1.length c0_1] 26 (0, 0)) (by (with_reducible repeat (first | refine blk_drewN ?_ _ | refine blk_drew ?_ | refine blk_alloc ?_ _)); exact BK532.out) hg (Kd.N_away HO_9.out (fun _ hk => hk.2.1))); have n2_ := Aside0.mk (blk_grown (g := gb533) (o := .cells #[.slice (some ad543) l1_0.length c1_0, .slice A1_1 l1_1.length c1_1] 26 (0, 0)) (by (with_reducible repeat (first | refine blk_drewN ?_ _ | refine blk_drew ?_ | refine blk_alloc ?_ _)); exact BK533.out) hg (Kd.N_away HO_9.out (fun _ hk => hk.2.2.1))); have n3_ := Aside0.mk (blk_grown (g := gb534) (o := .cells #[.slice none 0 0, .slice none 0 0] 26 (0, 0)) (by (with_reducible repeat (first | refine blk_drewN ?_ _ | refine blk_drew ?_ | refine blk_alloc ?_ _)); exact BK534.out) hg (Kd.N_away HO_9.out (fun _ hk => hk.2.2.2))); have n4_ := Aside0.mk (Kd.V_afterv (ok := (fun k_ => some k_ ≠ (.slice (some ad557) t550.length co58 : Value).ownBlock ∧ k_ ≠ gb532 ∧ k_ ≠ gb533 ∧ k_ ≠ gb534)) (by (with_reducible repeat (first | apply Kd.V_alloc | apply Kd.V_drewN | apply Kd.V_drew)); exact Kd.V_mono HL557_0.out (fun _ hk => ⟨⟨hk.2, ⟨hk.1.2.1, ⟨hk.1.2.2.1, hk.1.2.2.2⟩⟩⟩, hk.1.1⟩)) hg hat); have n5_ := Aside0.mk (Kd.V_afterv (ok := (fun k_ => some k_ ≠ (.slice (some ad557) t550.length co58 : Value).ownBlock ∧ k_ ≠ gb532 ∧ k_ ≠ gb533 ∧ k_ ≠ gb534)) (by (with_reducible repeat (first | apply Kd.V_alloc | apply Kd.V_drewN | apply Kd.V_drew)); exact Kd.V_mono HL557_1.out (fun _ hk => ⟨⟨hk.2, ⟨hk.1.2.1, ⟨hk.1.2.2.1, hk.1.2.2.2⟩⟩⟩, hk.1.1⟩)) hg hat); have n6_ := Aside0.mk (hb); have n7_ := Aside0.mk (ho); clear HO_6; clear BK532; clear BK533; clear BK534; clear HL557_0; clear HL557_1; clear HB; clear HO_9; have HO_6 := n0_; have BK532 := n1_; have BK533 := n2_; have BK534 := n3_; have HL557_0 := n4_; have HL557_1 := n5_; have HB := n6_; have HO560 := n7_; clear n0_ n1_ n2_ n3_ n4_ n5_ n6_ n7_; clear ho hb hg hat))
                                  go_roundg k2
                                  case measure => have := HJ2.out; have := HK2.out; omega
                                  case rel => exact ⟨(y558), (wrap64 (x10_2 + 1)), (by first | rfl | (simp; done) | (simp [*]; done)), H', ⟨by have := HJ2.out; have := HK2.out; omega⟩, ⟨by (with_reducible repeat (first | apply Kd.N_alloc | apply Kd.N_drewN | apply Kd.N_drew)); exact Kd.N_mono HO_6.out (fun _ hk => ⟨hk.2, ⟨hk.1.1, ⟨hk.1.2.1, hk.1.2.2⟩⟩⟩)⟩, ⟨by (with_reducible repeat (first | apply Kd.N_alloc | apply Kd.N_drewN | apply Kd.N_drew)); exact HO560.out⟩, ⟨by (with_reducible repeat (first | refine blk_drewN ?_ _ | refine blk_drew ?_ | refine blk_alloc ?_ _)); exact BK532.out⟩, ⟨by (with_reducible repeat (first | refine blk_drewN ?_ _ | refine blk_drew ?_ | refine blk_alloc ?_ _)); exact BK533.out⟩, ⟨by (with_reducible repeat (first | refine blk_drewN ?_ _ | refine blk_drew ?_ | refine blk_alloc ?_ _)); exact BK534.out⟩, ⟨by repeat (first | (with_reducible first | exact HB.out | apply below_alloc | apply pw_below_drewN | apply below_drew1 | refine below_set ?_ GE532.out | refine below_set ?_ GE533.out | refine below_set ?_ GE534.out) | exact HB.out)⟩⟩
                                · rw [if_neg c67] at H
                                  exact absurd H (by simp)
                              · rw [if_neg c66] at H
                                exact absurd H (by simp)
                            · rw [if_neg c65] at H
                              exact absurd H (by simp)
                        · rw [if_neg c62] at H
                          have c62b0 : decide (x10_2 < (t550.length : Int)) = false := decide_eq_false c62
                          clear c62
                          by_cases c69 : 1 ≤ (l1_0.length : Int)
                          · rw [if_pos c69] at H
                            have c69b0 := eq_true c69
                            have c69b1 : decide (1 ≤ (l1_0.length : Int)) = true := decide_eq_true c69
                            clear c69
                            replace H := Option.bind_eq_some_iff.mp H
                            obtain ⟨⟨t562, t565⟩, A700, H⟩ := H
                            replace H : (some (t562, t565, 0)) = some (r1, r2, r3) := H
                            have A70 := Aside0.mk A700
                            clear A700
                            simp only [Option.some.injEq, Prod.mk.injEq] at H
                            obtain ⟨rfl, rfl, rfl⟩ := H
                            have hnb71 := NB533_532.out
                            have hnc71 := NB532_533.out
                            have hnb72 := NB533_534.out
                            have hnc72 := NB534_533.out
                            have hcz73_0 : wr.cell? ⟨gb533, 0, none⟩ = some (.slice (some ad543) l1_0.length c1_0) := (blk_cell BK533.out 0).trans rfl
                            have hcz73_1 : wr.cell? ⟨gb533, 1, none⟩ = some (.slice A1_1 l1_1.length c1_1) := (blk_cell BK533.out 1).trans rfl
                            have hfz73_0 := blk_frozen BK533.out 0
                            have hfz73_1 := blk_frozen BK533.out 1
                            obtain ⟨i074, hi074, _, hsz74, _⟩ := info_parts info3
                            obtain ⟨A74, hcut74, hA74, hC74⟩ := print_drop_of (P := Try.prog) (Value.int .i64) 0 22 3 .i64 Try.underlying22 hi074 hsz74 (some ad543) c1_0 l1_0 1 (by omega) (of_decide_eq_true (by first | (with_reducible assumption) | assumption)) HC1_0.out
                            have HR561 := Aside0.mk (Kd.C_of_reads (h1 := fun _ => rfl) (hA74 _ (Kd.reads_of_C HR1_0.out)))
                            have HC561 := Aside0.mk hC74
                            clear hA74 hC74 hi074 hsz74
                            obtain ⟨Ao75, co75, eo75⟩ := Kd.N_slice HO_9.out
                            subst eo75
                            go_wp2_with (first | ((with_reducible refine gate_callee (f := 41) rfl ?_); refine goesL_ (some 76) rfl rfl Try.func41 (by kernel_rfl) rfl #[.slice Ao75 x9_2.length co75, .slice A74 (l1_0.drop 1).length (c1_0 - 1)] rfl (by (try simp only [List.map_toArray, List.map_cons, List.map_nil]); first | done | (rw [show (l1_0.drop 1).length = (l1_0.length - 1) from List.length_drop] <;> rfl) | rfl | (simp only [List.length_drop, List.length_take]; rfl)) ?_; (with_reducible refine (spec_l5Rows.calls k2 _ _ x9_2 _ _ (l1_0.drop 1) t562 t565 _ ?side1 ?side2 ?side3 ?side4 A70.out).mono ?_); (case side1 => repeat (first | exact (Kd.N_reads' HO_9.out).2.2 | (with_reducible refine Kd.C_alloc ?_ _) | (with_reducible refine Kd.C_drewN ?_ _) | (with_reducible refine Kd.C_drew ?_))); (case side2 => exact (Kd.N_reads' HO_9.out).2.1); (case side3 => repeat (first | exact (Kd.C_below HR561.out HB.out) | (with_reducible refine Kd.C_alloc ?_ _) | (with_reducible refine Kd.C_drewN ?_ _) | (with_reducible refine Kd.C_drew ?_))); (case side4 => exact HC561.out); rintro e w76 ⟨v563, v566, rfl, ho0, ho1, hb⟩; refine ⟨_, rfl, ?_⟩; have n0_ := Aside0.mk (Kd.N_mono (Kd.N_told (Kd.N_told (Kd.N_old (by (with_reducible repeat (first | apply Kd.N_alloc | apply Kd.N_drewN | apply Kd.N_drew)); exact HO_6.out) hb) (Kd.R_base ho0)) (Kd.R_base ho1)) (fun _ h_ => h_.1)); have n1_ := Aside0.mk (Kd.N_mono (Kd.N_told (Kd.N_told (Kd.N_old (by (with_reducible repeat (first | apply Kd.N_alloc | apply Kd.N_drewN | apply Kd.N_drew)); exact HO_9.out) hb) (Kd.R_base ho0)) (Kd.R_base ho1)) (fun _ h_ => h_.1)); have n2_ := Aside0.mk (Kd.R_lower ho0 (below_size (by repeat (first | (with_reducible first | exact HB.out | apply below_alloc | apply pw_below_drewN | apply below_drew1 | refine below_set ?_ GE532.out | refine below_set ?_ GE533.out | refine below_set ?_ GE534.out) | exact HB.out)))); have n3_ := Aside0.mk (Kd.R_lower ho1 (below_size (by repeat (first | (with_reducible first | exact HB.out | apply below_alloc | apply pw_below_drewN | apply below_drew1 | refine below_set ?_ GE532.out | refine below_set ?_ GE533.out | refine below_set ?_ GE534.out) | exact HB.out)))); have n4_ := Aside0.mk (blk_below (g := gb532) (o := .cells #[.slice A0_0 l0_0.length c0_0, .slice (some ad553) l0_1.length c0_1] 26 (0, 0)) (by (with_reducible repeat (first | refine blk_drewN ?_ _ | refine blk_drew ?_ | refine blk_alloc ?_ _)); exact BK532.out) hb); have n5_ := Aside0.mk (blk_below (g := gb533) (o := .cells #[.slice (some ad543) l1_0.length c1_0, .slice A1_1 l1_1.length c1_1] 26 (0, 0)) (by (with_reducible repeat (first | refine blk_drewN ?_ _ | refine blk_drew ?_ | refine blk_alloc ?_ _)); exact BK533.out) hb); have n6_ := Aside0.mk (blk_below (g := gb534) (o := .cells #[.slice none 0 0, .slice none 0 0] 26 (0, 0)) (by (with_reducible repeat (first | refine blk_drewN ?_ _ | refine blk_drew ?_ | refine blk_alloc ?_ _)); exact BK534.out) hb); have n7_ := Aside0.mk (below_step (by repeat (first | (with_reducible first | exact HB.out | apply below_alloc | apply pw_below_drewN | apply below_drew1 | refine below_set ?_ GE532.out | refine below_set ?_ GE533.out | refine below_set ?_ GE534.out) | exact HB.out)) hb); clear HO_6; clear HO_9; clear BK532; clear BK533; clear BK534; clear HB; have HO_6 := n0_; have HO_9 := n1_; have HO564 := n2_; have HO567 := n3_; have BK532 := n4_; have BK533 := n5_; have BK534 := n6_; have HB := n7_; clear n0_ n1_ n2_ n3_ n4_ n5_ n6_ n7_; (try clear hb); (try clear hb2); (try clear hk); (try clear hi); (try clear ho0); (try clear ho1); obtain ⟨Ao77, co77, eo77⟩ := Kd.R_slice HO564.out; subst eo77; have hnb78 := NB534_532.out; have hnc78 := NB532_534.out; have hcz79_0 : w76.cell? ⟨gb534, 0, none⟩ = some (.slice none 0 0) := (blk_cell BK534.out 0).trans rfl; have hcz79_1 : w76.cell? ⟨gb534, 1, none⟩ = some (.slice none 0 0) := (blk_cell BK534.out 1).trans rfl; have hfz79_0 := blk_frozen BK534.out 0; have hfz79_1 := blk_frozen BK534.out 1; obtain ⟨Ao80, co80, eo80⟩ := Kd.R_slice HO567.out; subst eo80))
                            refine bodyPost_ret (results_ct rfl _ _ gb534 26 #[.slice Ao77 t562.length co77, .slice Ao80 t565.length co80] (0, 0) _ rfl (by (with_reducible repeat (first | refine blk_drewN ?_ _ | refine blk_drew ?_ | refine blk_alloc ?_ _)); refine blk_put (cs := #[.slice Ao77 t562.length co77, .slice none 0 0]) ?_ 1 _ rfl; (with_reducible repeat (first | refine blk_drewN ?_ _ | refine blk_drew ?_ | refine blk_alloc ?_ _)); refine blk_put (cs := #[.slice none 0 0, .slice none 0 0]) ?_ 0 _ rfl; (with_reducible repeat (first | refine blk_drewN ?_ _ | refine blk_drew ?_ | refine blk_alloc ?_ _)); exact BK534.out) Try.underlying26 rfl (by kernel_rfl)) rfl ?_
                            exact ⟨_, _, by first | rfl | (simp [errW_none, errW_some] <;> rfl) | (simp [*, errW_none, errW_some] <;> rfl), by (with_reducible repeat (first | apply Kd.R_alloc | apply Kd.R_drewN | apply Kd.R_drew)); exact Kd.R_mono (Kd.R_far (p := ⟨gb534, 1, none⟩) (Kd.R_far (p := ⟨gb534, 0, none⟩) (Kd.R_types HO564.out BK534.out (by decide)) (fun _ hk => hk.2) (.slice Ao77 t562.length co77)) (fun _ hk => hk.2) (.slice Ao80 t565.length co80)) (fun _ hk => hk.1), by (with_reducible repeat (first | apply Kd.R_alloc | apply Kd.R_drewN | apply Kd.R_drew)); exact Kd.R_mono (Kd.R_far (p := ⟨gb534, 1, none⟩) (Kd.R_far (p := ⟨gb534, 0, none⟩) (Kd.R_types HO567.out BK534.out (by decide)) (fun _ hk => hk.2) (.slice Ao77 t562.length co77)) (fun _ hk => hk.2) (.slice Ao80 t565.length co80)) (fun _ hk => hk.1), by repeat (first | (with_reducible first | exact HB.out | apply below_alloc | apply pw_below_drewN | apply below_drew1 | refine below_set ?_ GE532.out | refine below_set ?_ GE533.out | refine below_set ?_ GE534.out) | exact HB.out)⟩
                          · rw [if_neg c69] at H
                            exact absurd H (by simp)
                · rw [if_neg c50] at H
                  exact absurd H (by simp)
            · rw [if_neg c37] at H
              exact absurd H (by simp)
        · rw [if_neg c25] at H
          have c25b0 : ((l0_1.length : Int) == 1) = false := beq_eq_false_iff_ne.mpr c25
          have c25b1 : ((l0_1.length : Int) != 1) = true := bne_iff_ne.mpr c25
          simp only [Option.some.injEq, Prod.mk.injEq] at H
          obtain ⟨rfl, rfl, rfl⟩ := H
          have hnb81 := NB532_533.out
          have hnc81 := NB533_532.out
          have hnb82 := NB532_534.out
          have hnc82 := NB534_532.out
          have hcz83_0 : wc.cell? ⟨gb532, 0, none⟩ = some (.slice A0_0 l0_0.length c0_0) := (blk_cell BK532.out 0).trans rfl
          have hcz83_1 : wc.cell? ⟨gb532, 1, none⟩ = some (.slice A0_1 l0_1.length c0_1) := (blk_cell BK532.out 1).trans rfl
          have hfz83_0 := blk_frozen BK532.out 0
          have hfz83_1 := blk_frozen BK532.out 1
          have hnb84 := NB534_533.out
          have hnc84 := NB533_534.out
          have hcz85_0 : wc.cell? ⟨gb534, 0, none⟩ = some (.slice none 0 0) := (blk_cell BK534.out 0).trans rfl
          have hcz85_1 : wc.cell? ⟨gb534, 1, none⟩ = some (.slice none 0 0) := (blk_cell BK534.out 1).trans rfl
          have hfz85_0 := blk_frozen BK534.out 0
          have hfz85_1 := blk_frozen BK534.out 1
          go_wp2
          refine bodyPost_ret (results_ct rfl _ _ gb534 26 #[.slice none 0 0, .slice none 0 0] (0, 0) _ rfl (by (with_reducible repeat (first | refine blk_drewN ?_ _ | refine blk_drew ?_ | refine blk_alloc ?_ _)); refine blk_put (cs := #[.slice none 0 0, .slice none 0 0]) ?_ 1 _ rfl; (with_reducible repeat (first | refine blk_drewN ?_ _ | refine blk_drew ?_ | refine blk_alloc ?_ _)); refine blk_put (cs := #[.slice none 0 0, .slice none 0 0]) ?_ 0 _ rfl; (with_reducible repeat (first | refine blk_drewN ?_ _ | refine blk_drew ?_ | refine blk_alloc ?_ _)); exact BK534.out) Try.underlying26 rfl (by kernel_rfl)) rfl ?_
          exact ⟨_, _, by first | rfl | (simp [errW_none, errW_some] <;> rfl) | (simp [*, errW_none, errW_some] <;> rfl), by first | exact Kd.R_nil _ _ _ _ _ | exact Kd.N_nil _ _ _ _ _ | exact Kd.V_nil _ _ _ _ _ | exact Kd.Q_nil _ _ _ _ _ | exact Kd.S_nil _ _ _ _ _, by first | exact Kd.R_nil _ _ _ _ _ | exact Kd.N_nil _ _ _ _ _ | exact Kd.V_nil _ _ _ _ _ | exact Kd.Q_nil _ _ _ _ _ | exact Kd.S_nil _ _ _ _ _, by repeat (first | (with_reducible first | exact HB.out | apply below_alloc | apply pw_below_drewN | apply below_drew1 | refine below_set ?_ GE532.out | refine below_set ?_ GE533.out | refine below_set ?_ GE534.out) | exact HB.out)⟩

end Go.Proofs.Ytjkbndfaemjjiaa.PFnRotated
