/- The walk of what a law reaches, for the law's row: written by a program of this session; it has no condition of its own. -/
import Derived.Test.YtcnbajdnlkcjjaaPFnExactTurnx0
import Derived.Test.YtcnbajdnlkcjjaaQ
import Derived.Test.YtcnbajdnlkcjjaaRev
import Derived.Test.YtcnbajdnlkcjjaaPFnExactTurnx5
namespace Go.Proofs.Ytcnbajdnlkcjjaa.PFnExactTurn
open Go.RowKit Go.Proofs.YtcnbajdnlkcjjaaW.PrintWords Go.Proofs.YtcnbajdnlkcjjaaW.PrintLast Go.Proofs.YtcnbajdnlkcjjaaW.PrintMore Go.Proofs.YtcnbajdnlkcjjaaQ
attribute [local go_sem] max2_int min2_int max_two min_two max_three min_three max_four min_four   -- for this text's walks alone
set_option linter.unusedVariables false
set_option linter.unusedSimpArgs false

/-! ### impl_joined: function 78 -/
def impl_joined.l0 : Nat → List (S26) → Int → Int → List Int → List Int → Option (List Int × List Int × Int)
 | 0, _, _, _, _, _ => none
 | k + 1, x15, x16, x17, x263000, x263001 => if x17 < x16 then (if 0 ≤ x17 then (if x17 < (x15.length : Int) then (if x263001.length + ((rd_T26 x15 x17).f1).length < 17592186044416 then (impl_joined.l0 k x15 x16 (wrap64 (x17 + 1)) x263000 (x263001 ++ ((rd_T26 x15 x17).f1))) else (none)) else (none)) else (none)) else ((impl_ArrayOk.f k x263000 x263001).bind fun t268 => (if t268 = true then (some (x263000, x263001, 0)) else (some (([] : List Int), ([] : List Int), 6))))
def impl_joined.f (k : Nat) (l0 : List (S26)) (l1 : List Int) : Option (List Int × List Int × Int) := (some (([(l0.length : Int)] : List Int) : List Int)).bind fun y256 => (if y256.length + l1.length < 17592186044416 then (impl_joined.l0 k l0 (l0.length : Int) 0 (y256 ++ l1) ([] : List Int)) else (none))
set_option maxHeartbeats 8000000 in
set_option maxRecDepth 100000 in
theorem impl_joined.calls (k : Nat) (A0 : Option Addr) (c0 : Nat) (l0 : List (S26)) (A1 : Option Addr) (c1 : Nat) (l1 : List Int) (r1 : List Int) (r2 : List Int) (r3 : Int) (w : World) (hr0 : Kd.C k26 w A0 l0.length l0) (hc0 : l0.length ≤ c0) (hr1 : Kd.C (Kd.int .i64) w A1 l1.length l1) (hc1 : l1.length ≤ c1) (h : impl_joined.f k l0 l1 = some (r1, r2, r3)) :
  Calls Try.prog 78 #[.slice A0 l0.length c0, .slice A1 l1.length c1] w fun e w' => ∃ v0_ v1_ : Value, e = .returned (.tuple #[.agg #[v0_, v1_], .int .i64 r3]) ∧ Kd.R (Kd.int .i64) 3 w' w.heap.size (fun k_ => some k_ ≠ (v1_ : Value).ownBlock) v0_ r1 ∧ Kd.R (Kd.int .i64) 3 w' w.heap.size (fun k_ => some k_ ≠ (v0_ : Value).ownBlock) v1_ r2 ∧ Below w.heap.size w w' := by
 have hu26 := Try.underlying26
 have HR0 := Aside0.mk hr0
 have HC0 := Aside0.mk hc0
 clear hr0 hc0
 have HR1 := Aside0.mk hr1
 have HC1 := Aside0.mk hc1
 clear hr1 hc1
 have HB := Aside0.mk (Below.refl w.heap.size w)
 have H : ((some (([(l0.length : Int)] : List Int) : List Int)).bind fun y256 => (if y256.length + l1.length < 17592186044416 then (impl_joined.l0 k l0 (l0.length : Int) 0 (y256 ++ l1) ([] : List Int)) else (none))) = some (r1, r2, r3) := h
 clear h
 obtain ⟨y256, hy256⟩ : ∃ y_ : List Int, y_ = (([(l0.length : Int)] : List Int)) := ⟨_, rfl⟩
 replace H : (if y256.length + l1.length < 17592186044416 then (impl_joined.l0 k l0 (l0.length : Int) 0 (y256 ++ l1) ([] : List Int)) else (none)) = some (r1, r2, r3) := by first | (rw [hy256]; with_reducible exact H) | (have H2_ := (Option.bind_some _ _).symm.trans H; rw [hy256]; with_reducible exact H2_) | (have H2_ := (Option.bind_some _ _).symm.trans H; with_reducible exact H2_) | with_reducible exact H | (rw [hy256]; exact H) | exact H
 have Ny256 := Aside0.mk hy256
 clear hy256
 by_cases c3 : y256.length + l1.length < 17592186044416
 ·
  rw [if_pos c3] at H
  have LMc3 := Aside0.mk c3
  clear c3
  obtain ⟨y259, hy259⟩ : ∃ y_ : List Int, y_ = (y256 ++ l1) := ⟨_, rfl⟩
  replace H : (impl_joined.l0 k l0 (l0.length : Int) 0 y259 ([] : List Int)) = some (r1, r2, r3) := by first | (rw [hy259]; with_reducible exact H) | (have H2_ := (Option.bind_some _ _).symm.trans H; rw [hy259]; with_reducible exact H2_) | (have H2_ := (Option.bind_some _ _).symm.trans H; with_reducible exact H2_) | with_reducible exact H | (rw [hy259]; exact H) | exact H
  have Ny259 := Aside0.mk hy259
  clear hy259
  have H' := Aside0.mk H
  clear H
  go_enter Try.func78, Try.ntmps78
  go_wp2_with (first | ((with_reducible refine gate_dst (N := 4) rfl ?_); refine box_event ?hg (N := 4) ?hd (cs := #[.slice none 0 0, .slice none 0 0]) (t := 26) ?hr ?_; (case hd => rfl); (case hg => rfl); (case hr => first | (go_simp; done) | (go_simp; rfl)); intro gb255 hg w4 hbox hb; have BK255 := Aside0.mk (hbox); have GW255 := Aside0.mk ((by rw [hg]; exact (below_size (bU HB.out)) : w.heap.size ≤ gb255)); have GE255 := Aside0.mk ((by rw [hg]; exact (below_size (bU HB.out)) : w.heap.size ≤ gb255)); replace HB := Aside0.mk (below_step (bU HB.out) hb); clear hb hbox hg) | ((with_reducible refine gate_dst (N := 11) rfl ?_); refine Kd.R_lit (Kd.int .i64) _ 3 ?hg (N := 11) ?hd (xs := ([(l0.length : Int)] : List Int)) (inner := [.int .i64 (l0.length : Int)]) (ok := fun _ => True) (okp := fun _ => True) ?hr ?hp (fun _ hk => hk) trivial (Below.refl _ _) (Nat.le_refl _) (by simp) ?_; (case hd => rfl); (case hg => rfl); (case hr => first | (go_simp; done) | (go_simp; rfl)); (case hp => exact (Reps.one (show Kd.M (Kd.int .i64) _ _ _ (l0.length : Int) [.int .i64 (l0.length : Int)] from rfl) (Reps.none _ _))); intro v257 w5 ho6 hb hg_ hnew_; clear hg_ hnew_; (first | rw [← Ny256.out] at ho6 | (simp only [Int.reduceToNat] at ho6; rw [← Ny256.out] at ho6)); have HO258 := Aside0.mk (Kd.R_lower ho6 (below_size (bS1 HB.out GE255.out))); replace BK255 := Aside0.mk (kB BK255.out hb); replace HB := Aside0.mk (below_step (bS1 HB.out GE255.out) hb); clear hb ho6) | ((with_reducible refine gate_builtin (b := .append) (xs := #[.tmp 11, .tmp 12]) rfl ?_); at_builtin; refine Kd.R_append_rows (Kd.int .i64) (w0 := w) w.heap.size rfl (.tmp 11) (.tmp 12) 22 3 (.int .i64 0) 8 rfl Try.underlying22 info3 rfl (by decide) (by omega) v257 y256 l1 _ _ _ (fun _ => True) (fun _ => False) rfl rfl ?aO ?aR (fun _ _ h => h) (fun _ h => h.elim) ?aF ?aB ?aS ?aL ?_; (case aR => exact cU (Kd.C_below HR1.out HB.out)); (case aB => exact (bS1 HB.out GE255.out)); (case aF => exact (fun _ _ => trivial)); (case aO => exact (RU HO258.out)); (case aS => exact (below_size (bS1 HB.out GE255.out))); (case aL => have := LMc3.out; omega); intro v260 w7 ho hb hg hat; rw [← Ny259.out] at ho; have n0_ := Aside0.mk (blk_grown (g := gb255) (o := .cells #[.slice none 0 0, .slice none 0 0] 26 (0, 0)) (kU BK255.out) hg (Kd.R_ne HO258.out BK255.out (by decide))); have n1_ := Aside0.mk (hb); have n2_ := Aside0.mk (ho); clear BK255; clear HB; clear HO258; have BK255 := n0_; have HB := n1_; have HO261 := n2_; clear n0_ n1_ n2_; clear ho hb hg hat; obtain ⟨Ao8, co8, eo8⟩ := Kd.R_slice HO261.out; subst eo8) | ((with_reducible refine gate_dst (N := 6) rfl ?_); refine box_event ?hg (N := 6) ?hd (cs := #[.slice none 0 0, .slice none 0 0]) (t := 26) ?hr ?_; (case hd => rfl); (case hg => rfl); (case hr => first | (go_simp; done) | (go_simp; rfl)); intro gb262 hg w9 hbox hb; replace HO261 := Aside0.mk (Kd.R_below (RU HO261.out) hb); have BK262 := Aside0.mk (hbox); have GW262 := Aside0.mk ((by rw [hg]; exact (below_size (bS1 HB.out GE255.out)) : w.heap.size ≤ gb262)); have GE262 := Aside0.mk ((by rw [hg]; exact (below_size (bS1 HB.out GE255.out)) : w.heap.size ≤ gb262)); replace HB := Aside0.mk (below_step (bS1 HB.out GE255.out) hb); have NB255_262 := Aside0.mk (kN BK255.out hg); have NB262_255 := Aside0.mk (kM BK255.out hg); replace BK255 := Aside0.mk (kB BK255.out hb); clear hb hbox hg; have hnb10 := NB262_255.out; have hnc10 := NB255_262.out; have hcz11_0 : w9.cell? ⟨gb262, 0, none⟩ = some (.slice none 0 0) := (blk_cell BK262.out 0).trans rfl; have hcz11_1 : w9.cell? ⟨gb262, 1, none⟩ = some (.slice none 0 0) := (blk_cell BK262.out 1).trans rfl; have hfz11_0 := blk_frozen BK262.out 0; have hfz11_1 := blk_frozen BK262.out 1))
  go_loopg [17] k (fun kq v17 w' => ∃ (x17_1 : Int) (x263001_1 : List Int) (u263001 : Value), v17 = .int .i64 x17_1 ∧ Aside0 (impl_joined.l0 kq l0 (l0.length : Int) x17_1 y259 x263001_1 = some (r1, r2, r3)) ∧ Aside0 (kq ≤ k) ∧ Aside0 (Kd.R (Kd.int .i64) 3 w' w.heap.size (fun k_ => some k_ ≠ (u263001 : Value).ownBlock) (.slice Ao8 y259.length co8) y259) ∧ Aside0 (Kd.R (Kd.int .i64) 3 w' w.heap.size (fun k_ => some k_ ≠ ((.slice Ao8 y259.length co8) : Value).ownBlock) u263001 x263001_1) ∧ Aside0 (w'.heap[gb255]? = some (.cells #[(.slice none 0 0), (.slice none 0 0)] 26 (0, 0))) ∧ Aside0 (w'.heap[gb262]? = some (.cells #[(.slice Ao8 y259.length co8), u263001] 26 (0, 0))) ∧ Aside0 (Below w.heap.size w w'))
  case atStart => exact ⟨(0), (([] : List Int)), (.slice none 0 0), (by first | rfl | (simp; done) | (simp [*]; done)), H', ⟨Nat.le_refl _⟩, ⟨by refine RU ?_; exact Kd.R_mono (Kd.R_far (p := ⟨gb262, 1, none⟩) (Kd.R_far (p := ⟨gb262, 0, none⟩) (Kd.R_types HO261.out BK262.out (by decide)) (fun _ hk => hk.2) (.slice Ao8 y259.length co8)) (fun _ hk => hk.2) (.slice none 0 0)) (fun _ hk => (by simp [Value.ownBlock]))⟩, ⟨by first | exact Kd.R_nil _ _ _ _ _ | exact Kd.N_nil _ _ _ _ _ | exact Kd.V_nil _ _ _ _ _ | exact Kd.Q_nil _ _ _ _ _ | exact Kd.S_nil _ _ _ _ _⟩, ⟨by refine kU ?_; refine blk_far ?_ NB255_262.out _; refine kU ?_; refine blk_far ?_ NB255_262.out _; refine kU ?_; exact BK255.out⟩, ⟨by refine kU ?_; refine blk_put (cs := #[.slice Ao8 y259.length co8, .slice none 0 0]) ?_ 1 _ rfl; refine kU ?_; refine blk_put (cs := #[.slice none 0 0, .slice none 0 0]) ?_ 0 _ rfl; refine kU ?_; exact BK262.out⟩, ⟨by exact bS2 HB.out GE255.out GE262.out⟩⟩
  case round =>
   clear H'
   try clear c1
   try clear p2
   try clear c3
   try clear c7
   try clear c10
   try clear hcz11_0
   try clear hcz11_1
   try clear hfz11_0
   try clear hfz11_1
   obtain ⟨x17_1, x263001_1, u263001, rfl, HA, HK1, HO_263000, HO_263001, BK255, BK262, HB⟩ := hrel
   cases gk with
   | zero => exact absurd HA.out (by simp [impl_joined.l0])
   | succ k1 =>
    have H := HA.out
    clear HA
    simp only [impl_joined.l0] at H
    by_cases c12 : x17_1 < (l0.length : Int)
    ·
     rw [if_pos c12] at H
     have c12b0 : decide (x17_1 < (l0.length : Int)) = true := decide_eq_true c12
     clear c12
     by_cases c13 : 0 ≤ x17_1
     ·
      rw [if_pos c13] at H
      have c13b0 : decide (0 ≤ x17_1) = true := decide_eq_true c13
      clear c13
      by_cases c14 : x17_1 < (l0.length : Int)
      ·
       rw [if_pos c14] at H
       have c14b0 : decide (x17_1 < (l0.length : Int)) = true := decide_eq_true c14
       clear c14
       by_cases c15 : x263001_1.length + ((rd_T26 l0 x17_1).f1).length < 17592186044416
       ·
        rw [if_pos c15] at H
        have LMc15 := Aside0.mk c15
        clear c15
        obtain ⟨y265, hy265⟩ : ∃ y_ : List Int, y_ = (x263001_1 ++ ((rd_T26 l0 x17_1).f1)) := ⟨_, rfl⟩
        replace H : (impl_joined.l0 k1 l0 (l0.length : Int) (wrap64 (x17_1 + 1)) y259 y265) = some (r1, r2, r3) := by first | (rw [hy265]; with_reducible exact H) | (have H2_ := (Option.bind_some _ _).symm.trans H; rw [hy265]; with_reducible exact H2_) | (have H2_ := (Option.bind_some _ _).symm.trans H; with_reducible exact H2_) | with_reducible exact H | (rw [hy265]; exact H) | exact H
        have Ny265 := Aside0.mk hy265
        clear hy265
        have H' := Aside0.mk H
        clear H
        have p263 : 0 ≤ (x17_1 : Int) := of_decide_eq_true (by first | (with_reducible assumption) | assumption)
        have q263 : x17_1 < (l0.length : Int) := of_decide_eq_true (by first | (with_reducible assumption) | assumption)
        obtain ⟨ad263, A263_0, c263_0, A263_1, c263_1, e263, hx263_0, hx263_1, hl263_0, hi263_0, hl263_1, hi263_1⟩ := at_T26 HR0.out x17_1 p263 q263
        cases e263
        replace hx263_0 := (HB.out.cell (World.block_lt_of_cell? w _ hx263_0)).trans hx263_0
        replace hx263_1 := (HB.out.cell (World.block_lt_of_cell? w _ hx263_1)).trans hx263_1
        have HR263_0 := Aside0.mk hi263_0
        have HC263_0 := Aside0.mk hl263_0
        clear hi263_0 hl263_0
        have HR263_1 := Aside0.mk hi263_1
        have HC263_1 := Aside0.mk hl263_1
        clear hi263_1 hl263_1
        replace p263 := eq_true p263
        replace q263 := eq_true q263
        go_wp2_with (first | ((with_reducible refine gate_dst (N := 8) rfl ?_); refine box_event ?hg (N := 8) ?hd (cs := #[.slice none 0 0, .slice none 0 0]) (t := 26) ?hr ?_; (case hd => rfl); (case hg => rfl); (case hr => first | (go_simp; done) | (go_simp; rfl)); intro gb264 hg w16 hbox hb; replace HO_263000 := Aside0.mk (Kd.R_below (RU HO_263000.out) hb); replace HO_263001 := Aside0.mk (Kd.R_below (RU HO_263001.out) hb); have BK264 := Aside0.mk (hbox); have GW264 := Aside0.mk ((by rw [hg]; exact (below_size (bS2 HB.out GE255.out GE262.out)) : w.heap.size ≤ gb264)); have GE264 := Aside0.mk ((by rw [hg]; exact (below_size (bS2 HB.out GE255.out GE262.out)) : w.heap.size ≤ gb264)); replace HB := Aside0.mk (below_step (bS2 HB.out GE255.out GE262.out) hb); have NB255_264 := Aside0.mk (kN BK255.out hg); have NB264_255 := Aside0.mk (kM BK255.out hg); replace BK255 := Aside0.mk (kB BK255.out hb); have NB262_264 := Aside0.mk (kN BK262.out hg); have NB264_262 := Aside0.mk (kM BK262.out hg); replace BK262 := Aside0.mk (kB BK262.out hb); clear hb hbox hg; have hnb17 := NB264_255.out; have hnc17 := NB255_264.out; have hnb18 := NB264_262.out; have hnc18 := NB262_264.out; have hcz19_0 : w16.cell? ⟨gb264, 0, none⟩ = some (.slice none 0 0) := (blk_cell BK264.out 0).trans rfl; have hcz19_1 : w16.cell? ⟨gb264, 1, none⟩ = some (.slice none 0 0) := (blk_cell BK264.out 1).trans rfl; have hfz19_0 := blk_frozen BK264.out 0; have hfz19_1 := blk_frozen BK264.out 1; have hnb20 := NB262_255.out; have hnc20 := NB255_262.out; have hcz21_0 : w16.cell? ⟨gb262, 0, none⟩ = some (.slice Ao8 y259.length co8) := (blk_cell BK262.out 0).trans rfl; have hcz21_1 : w16.cell? ⟨gb262, 1, none⟩ = some (u263001) := (blk_cell BK262.out 1).trans rfl; have hfz21_0 := blk_frozen BK262.out 0; have hfz21_1 := blk_frozen BK262.out 1) | ((with_reducible refine gate_builtin (b := .append) (xs := #[.tmp 22, .tmp 24]) rfl ?_); at_builtin; refine Kd.R_append_rows (Kd.int .i64) (w0 := w) w.heap.size rfl (.tmp 22) (.tmp 24) 22 3 (.int .i64 0) 8 rfl Try.underlying22 info3 rfl (by decide) (by omega) u263001 x263001_1 ((rd_T26 l0 x17_1).f1) _ _ _ (fun k_ => some k_ ≠ (.slice Ao8 y259.length co8 : Value).ownBlock) (fun _ => False) rfl rfl ?aO ?aR (fun _ _ h => h) (fun _ h => h.elim) ?aF ?aB ?aS ?aL ?_; (case aR => exact Kd.C_below HR263_1.out (bS3 HB.out GE255.out GE262.out GE264.out)); (case aB => exact (bS3 HB.out GE255.out GE262.out GE264.out)); (case aF => exact (fun k_ hk => Kd.fresh' (Kd.R_lt (by refine RU ?_; exact (Kd.R_mono (Kd.R_far (p := ⟨gb264, 1, none⟩) (Kd.R_far (p := ⟨gb264, 0, none⟩) (Kd.R_types HO_263000.out BK264.out (by decide)) (fun _ hk => hk.2) (.slice A263_0 ((rd_T26 l0 x17_1).f0).length c263_0)) (fun _ hk => hk.2) (.slice A263_1 ((rd_T26 l0 x17_1).f1).length c263_1)) (fun _ h_ => h_.1)))) k_ hk)); (case aO => exact (by refine RU ?_; exact Kd.R_mono (Kd.R_far (p := ⟨gb264, 1, none⟩) (Kd.R_far (p := ⟨gb264, 0, none⟩) (Kd.R_types HO_263001.out BK264.out (by decide)) (fun _ hk => hk.2) (.slice A263_0 ((rd_T26 l0 x17_1).f0).length c263_0)) (fun _ hk => hk.2) (.slice A263_1 ((rd_T26 l0 x17_1).f1).length c263_1)) (fun _ hk => hk.1))); (case aS => exact (below_size (bS3 HB.out GE255.out GE262.out GE264.out))); (case aL => have := LMc15.out; omega); intro v266 w22 ho hb hg hat; rw [← Ny265.out] at ho; have n0_ := Aside0.mk (Kd.R_after (ok := (fun _ => True)) (by refine RU ?_; exact Kd.R_mono (Kd.R_far (p := ⟨gb264, 1, none⟩) (Kd.R_far (p := ⟨gb264, 0, none⟩) (Kd.R_types HO_263000.out BK264.out (by decide)) (fun _ hk => hk.2) (.slice A263_0 ((rd_T26 l0 x17_1).f0).length c263_0)) (fun _ hk => hk.2) (.slice A263_1 ((rd_T26 l0 x17_1).f1).length c263_1)) (fun _ hk => ⟨trivial, hk.1⟩)) hg hat); have n1_ := Aside0.mk (blk_grown (g := gb255) (o := .cells #[.slice none 0 0, .slice none 0 0] 26 (0, 0)) (by refine kU ?_; refine blk_far ?_ NB255_264.out _; refine kU ?_; refine blk_far ?_ NB255_264.out _; refine kU ?_; exact BK255.out) hg (Kd.R_ne HO_263001.out BK255.out (by decide))); have n2_ := Aside0.mk (blk_grown (g := gb262) (o := .cells #[.slice Ao8 y259.length co8, u263001] 26 (0, 0)) (by refine kU ?_; refine blk_far ?_ NB262_264.out _; refine kU ?_; refine blk_far ?_ NB262_264.out _; refine kU ?_; exact BK262.out) hg (Kd.R_ne HO_263001.out BK262.out (by decide))); have n3_ := Aside0.mk (blk_grown (g := gb264) (o := .cells #[.slice A263_0 ((rd_T26 l0 x17_1).f0).length c263_0, .slice A263_1 ((rd_T26 l0 x17_1).f1).length c263_1] 26 (0, 0)) (by refine kU ?_; refine blk_put (cs := #[.slice A263_0 ((rd_T26 l0 x17_1).f0).length c263_0, .slice none 0 0]) ?_ 1 _ rfl; refine kU ?_; refine blk_put (cs := #[.slice none 0 0, .slice none 0 0]) ?_ 0 _ rfl; refine kU ?_; exact BK264.out) hg (Kd.R_ne HO_263001.out BK264.out (by decide))); have n4_ := Aside0.mk (hb); have n5_ := Aside0.mk (ho); clear HO_263000; clear BK255; clear BK262; clear BK264; clear HB; clear HO_263001; have HO_263000 := n0_; have BK255 := n1_; have BK262 := n2_; have BK264 := n3_; have HB := n4_; have HO267 := n5_; clear n0_ n1_ n2_ n3_ n4_ n5_; clear ho hb hg hat; obtain ⟨Ao23, co23, eo23⟩ := Kd.R_slice HO267.out; subst eo23; have hcz24_0 : w22.cell? ⟨gb262, 0, none⟩ = some (.slice Ao8 y259.length co8) := (blk_cell BK262.out 0).trans rfl; have hcz24_1 : w22.cell? ⟨gb262, 1, none⟩ = some (u263001) := (blk_cell BK262.out 1).trans rfl; have hfz24_0 := blk_frozen BK262.out 0; have hfz24_1 := blk_frozen BK262.out 1))
        go_roundg k1
        case measure => have := HK1.out; omega
        case rel => exact ⟨(wrap64 (x17_1 + 1)), (y265), (.slice Ao23 y265.length co23), (by first | rfl | (simp; done) | (simp [*]; done)), H', ⟨by have := HK1.out; omega⟩, ⟨by refine RU ?_; exact Kd.R_mono (Kd.R_far (p := ⟨gb262, 1, none⟩) (Kd.R_types HO_263000.out BK262.out (by decide)) (fun _ hk => hk.2) (.slice Ao23 y265.length co23)) (fun _ hk => hk.1.2)⟩, ⟨by refine RU ?_; exact Kd.R_mono (Kd.R_far (p := ⟨gb262, 1, none⟩) (Kd.R_types HO267.out BK262.out (by decide)) (fun _ hk => hk.2) (.slice Ao23 y265.length co23)) (fun _ hk => hk.1)⟩, ⟨by refine kU ?_; refine blk_far ?_ NB255_262.out _; refine kU ?_; exact BK255.out⟩, ⟨by refine kU ?_; refine blk_put (cs := #[.slice Ao8 y259.length co8, u263001]) ?_ 1 _ rfl; refine kU ?_; exact BK262.out⟩, ⟨by exact bS3 HB.out GE255.out GE262.out GE264.out⟩⟩
       ·
        rw [if_neg c15] at H
        exact absurd H (by simp)
      ·
       rw [if_neg c14] at H
       exact absurd H (by simp)
     ·
      rw [if_neg c13] at H
      exact absurd H (by simp)
    ·
     rw [if_neg c12] at H
     have c12b0 : decide (x17_1 < (l0.length : Int)) = false := decide_eq_false c12
     clear c12
     replace H := Option.bind_eq_some_iff.mp H
     obtain ⟨t268, A250, H⟩ := H
     replace H : (if t268 = true then (some (y259, x263001_1, 0)) else (some (([] : List Int), ([] : List Int), 6))) = some (r1, r2, r3) := H
     have A25 := Aside0.mk A250
     clear A250
     by_cases c26 : t268 = true
     ·
      subst c26
      have H1 : (some (y259, x263001_1, 0)) = some (r1, r2, r3) := by rw [if_pos rfl] at H; exact H
      clear H
      have H := H1
      clear H1
      simp only [Option.some.injEq, Prod.mk.injEq] at H
      obtain ⟨rfl, rfl, rfl⟩ := H
      have hnb27 := NB262_255.out
      have hnc27 := NB255_262.out
      have hcz28_0 : wr.cell? ⟨gb262, 0, none⟩ = some (.slice Ao8 y259.length co8) := (blk_cell BK262.out 0).trans rfl
      have hcz28_1 : wr.cell? ⟨gb262, 1, none⟩ = some (u263001) := (blk_cell BK262.out 1).trans rfl
      have hfz28_0 := blk_frozen BK262.out 0
      have hfz28_1 := blk_frozen BK262.out 1
      obtain ⟨Ao29, co29, eo29⟩ := Kd.R_slice HO_263001.out
      subst eo29
      go_wp2_with (first | ((with_reducible refine gate_callee (f := 36) rfl ?_); refine goesL_ (some 29) rfl rfl Try.func36 (by kernel_rfl) rfl #[.agg #[.slice Ao8 y259.length co8, .slice Ao29 x263001_1.length co29]] rfl lU ?_; (with_reducible refine (impl_ArrayOk.calls k1 _ _ y259 _ _ x263001_1 true _ ?side1 ?side2 ?side3 ?side4 A25.out).mono ?_); (case side1 => exact cU (Kd.R_reads' HO_263000.out).2.2); (case side2 => exact (Kd.R_reads' HO_263000.out).2.1); (case side3 => exact cU (Kd.R_reads' HO_263001.out).2.2); (case side4 => exact (Kd.R_reads' HO_263001.out).2.1); rintro e w30 ⟨rfl, hb⟩; refine ⟨_, rfl, ?_⟩; replace HO_263000 := Aside0.mk (Kd.R_below (RU HO_263000.out) hb); replace HO_263001 := Aside0.mk (Kd.R_below (RU HO_263001.out) hb); replace BK255 := Aside0.mk (kB BK255.out hb); replace BK262 := Aside0.mk (kB BK262.out hb); replace HB := Aside0.mk (below_step (bS2 HB.out GE255.out GE262.out) hb); (try clear hb); (try clear hb2); (try clear hk); (try clear hi); have hcz31_0 : w30.cell? ⟨gb262, 0, none⟩ = some (.slice Ao8 y259.length co8) := (blk_cell BK262.out 0).trans rfl; have hcz31_1 : w30.cell? ⟨gb262, 1, none⟩ = some (.slice Ao29 x263001_1.length co29) := (blk_cell BK262.out 1).trans rfl; have hfz31_0 := blk_frozen BK262.out 0; have hfz31_1 := blk_frozen BK262.out 1; have hcz32_0 : w30.cell? ⟨gb255, 0, none⟩ = some (.slice none 0 0) := (blk_cell BK255.out 0).trans rfl; have hcz32_1 : w30.cell? ⟨gb255, 1, none⟩ = some (.slice none 0 0) := (blk_cell BK255.out 1).trans rfl; have hfz32_0 := blk_frozen BK255.out 0; have hfz32_1 := blk_frozen BK255.out 1))
      refine bodyPost_ret (results_ct rfl _ _ gb255 26 #[.slice Ao8 y259.length co8, .slice Ao29 x263001_1.length co29] (0, 0) _ rfl (by refine kU ?_; refine blk_put (cs := #[.slice Ao8 y259.length co8, .slice none 0 0]) ?_ 1 _ rfl; refine kU ?_; refine blk_put (cs := #[.slice none 0 0, .slice none 0 0]) ?_ 0 _ rfl; refine kU ?_; exact BK255.out) Try.underlying26 rfl (by kernel_rfl)) rfl ?_
      exact ⟨_, _, by first | rfl | (simp [errW_none, errW_some] <;> rfl) | (simp [*, errW_none, errW_some] <;> rfl), by refine RU ?_; exact Kd.R_mono (Kd.R_far (p := ⟨gb255, 1, none⟩) (Kd.R_far (p := ⟨gb255, 0, none⟩) (Kd.R_types HO_263000.out BK255.out (by decide)) (fun _ hk => hk.2) (.slice Ao8 y259.length co8)) (fun _ hk => hk.2) (.slice Ao29 x263001_1.length co29)) (fun _ hk => hk.1), by refine RU ?_; exact Kd.R_mono (Kd.R_far (p := ⟨gb255, 1, none⟩) (Kd.R_far (p := ⟨gb255, 0, none⟩) (Kd.R_types HO_263001.out BK255.out (by decide)) (fun _ hk => hk.2) (.slice Ao8 y259.length co8)) (fun _ hk => hk.2) (.slice Ao29 x263001_1.length co29)) (fun _ hk => hk.1), by exact bS2 HB.out GE255.out GE262.out⟩
     ·
      replace c26 := Bool.eq_false_iff.mpr c26
      subst c26
      have H1 : (some (([] : List Int), ([] : List Int), 6)) = some (r1, r2, r3) := by rw [if_neg (show ¬ (false = true) by decide)] at H; exact H
      clear H
      have H := H1
      clear H1
      simp only [Option.some.injEq, Prod.mk.injEq] at H
      obtain ⟨rfl, rfl, rfl⟩ := H
      have hnb33 := NB262_255.out
      have hnc33 := NB255_262.out
      have hcz34_0 : wr.cell? ⟨gb262, 0, none⟩ = some (.slice Ao8 y259.length co8) := (blk_cell BK262.out 0).trans rfl
      have hcz34_1 : wr.cell? ⟨gb262, 1, none⟩ = some (u263001) := (blk_cell BK262.out 1).trans rfl
      have hfz34_0 := blk_frozen BK262.out 0
      have hfz34_1 := blk_frozen BK262.out 1
      obtain ⟨Ao35, co35, eo35⟩ := Kd.R_slice HO_263001.out
      subst eo35
      go_wp2_with (first | ((with_reducible refine gate_callee (f := 36) rfl ?_); refine goesL_ (some 29) rfl rfl Try.func36 (by kernel_rfl) rfl #[.agg #[.slice Ao8 y259.length co8, .slice Ao35 x263001_1.length co35]] rfl lU ?_; (with_reducible refine (impl_ArrayOk.calls k1 _ _ y259 _ _ x263001_1 false _ ?side1 ?side2 ?side3 ?side4 A25.out).mono ?_); (case side1 => exact cU (Kd.R_reads' HO_263000.out).2.2); (case side2 => exact (Kd.R_reads' HO_263000.out).2.1); (case side3 => exact cU (Kd.R_reads' HO_263001.out).2.2); (case side4 => exact (Kd.R_reads' HO_263001.out).2.1); rintro e w36 ⟨rfl, hb⟩; refine ⟨_, rfl, ?_⟩; replace HO_263000 := Aside0.mk (Kd.R_below (RU HO_263000.out) hb); replace HO_263001 := Aside0.mk (Kd.R_below (RU HO_263001.out) hb); replace BK255 := Aside0.mk (kB BK255.out hb); replace BK262 := Aside0.mk (kB BK262.out hb); replace HB := Aside0.mk (below_step (bS2 HB.out GE255.out GE262.out) hb); (try clear hb); (try clear hb2); (try clear hk); (try clear hi); have hcz37_0 : w36.cell? ⟨gb255, 0, none⟩ = some (.slice none 0 0) := (blk_cell BK255.out 0).trans rfl; have hcz37_1 : w36.cell? ⟨gb255, 1, none⟩ = some (.slice none 0 0) := (blk_cell BK255.out 1).trans rfl; have hfz37_0 := blk_frozen BK255.out 0; have hfz37_1 := blk_frozen BK255.out 1))
      refine bodyPost_ret (results_ct rfl _ _ gb255 26 #[.slice none 0 0, .slice none 0 0] (0, 0) _ rfl (by refine kU ?_; refine blk_put (cs := #[.slice none 0 0, .slice none 0 0]) ?_ 1 _ rfl; refine kU ?_; refine blk_put (cs := #[.slice none 0 0, .slice none 0 0]) ?_ 0 _ rfl; refine kU ?_; exact BK255.out) Try.underlying26 rfl (by kernel_rfl)) rfl ?_
      exact ⟨_, _, by first | rfl | (simp [errW_none, errW_some] <;> rfl) | (simp [*, errW_none, errW_some] <;> rfl), by first | exact Kd.R_nil _ _ _ _ _ | exact Kd.N_nil _ _ _ _ _ | exact Kd.V_nil _ _ _ _ _ | exact Kd.Q_nil _ _ _ _ _ | exact Kd.S_nil _ _ _ _ _, by first | exact Kd.R_nil _ _ _ _ _ | exact Kd.N_nil _ _ _ _ _ | exact Kd.V_nil _ _ _ _ _ | exact Kd.Q_nil _ _ _ _ _ | exact Kd.S_nil _ _ _ _ _, by exact bS2 HB.out GE255.out GE262.out⟩
 ·
  rw [if_neg c3] at H
  exact absurd H (by simp)

/-! ### impl_Turn: function 30 -/
def impl_Turn.f (k : Nat) (l0_0 : List Int) (l0_1 : List Int) : Option (List Int × List Int × Int) := (impl_ArrayOk.f k l0_0 l0_1).bind fun t271 => (if t271 = true then (if (l0_0.length : Int) = 0 then ((impl_copyArray.f l0_0 l0_1).bind fun bt272 => (some (bt272.1, bt272.2, 0))) else ((impl_Rows.f k l0_0 l0_1).bind fun t278 => (if 1 ≤ (l0_0.length : Int) then ((impl_joined.f k t278.reverse (l0_0.drop 1)).bind fun bt282 => (some (bt282.1, bt282.2.1, bt282.2.2))) else (none)))) else (some (([] : List Int), ([] : List Int), 1)))
set_option maxHeartbeats 8000000 in
set_option maxRecDepth 100000 in
theorem impl_Turn.calls (k : Nat) (A0_0 : Option Addr) (c0_0 : Nat) (l0_0 : List Int) (A0_1 : Option Addr) (c0_1 : Nat) (l0_1 : List Int) (r1 : List Int) (r2 : List Int) (r3 : Int) (w : World) (hr0_0 : Kd.C (Kd.int .i64) w A0_0 l0_0.length l0_0) (hc0_0 : l0_0.length ≤ c0_0) (hr0_1 : Kd.C (Kd.int .i64) w A0_1 l0_1.length l0_1) (hc0_1 : l0_1.length ≤ c0_1) (h : impl_Turn.f k l0_0 l0_1 = some (r1, r2, r3)) :
  Calls Try.prog 30 #[.agg #[.slice A0_0 l0_0.length c0_0, .slice A0_1 l0_1.length c0_1]] w fun e w' => ∃ v0_ v1_ : Value, e = .returned (.tuple #[.agg #[v0_, v1_], .int .i64 r3]) ∧ Kd.R (Kd.int .i64) 3 w' w.heap.size (fun k_ => some k_ ≠ (v1_ : Value).ownBlock) v0_ r1 ∧ Kd.R (Kd.int .i64) 3 w' w.heap.size (fun k_ => some k_ ≠ (v0_ : Value).ownBlock) v1_ r2 ∧ Below w.heap.size w w' := by
 have hu26 := Try.underlying26
 have HR0_0 := Aside0.mk hr0_0
 have HC0_0 := Aside0.mk hc0_0
 clear hr0_0 hc0_0
 have HR0_1 := Aside0.mk hr0_1
 have HC0_1 := Aside0.mk hc0_1
 clear hr0_1 hc0_1
 have HB := Aside0.mk (Below.refl w.heap.size w)
 have H : ((impl_ArrayOk.f k l0_0 l0_1).bind fun t271 => (if t271 = true then (if (l0_0.length : Int) = 0 then ((impl_copyArray.f l0_0 l0_1).bind fun bt272 => (some (bt272.1, bt272.2, 0))) else ((impl_Rows.f k l0_0 l0_1).bind fun t278 => (if 1 ≤ (l0_0.length : Int) then ((impl_joined.f k t278.reverse (l0_0.drop 1)).bind fun bt282 => (some (bt282.1, bt282.2.1, bt282.2.2))) else (none)))) else (some (([] : List Int), ([] : List Int), 1)))) = some (r1, r2, r3) := h
 clear h
 replace H := Option.bind_eq_some_iff.mp H
 obtain ⟨t271, A20, H⟩ := H
 replace H : (if t271 = true then (if (l0_0.length : Int) = 0 then ((impl_copyArray.f l0_0 l0_1).bind fun bt272 => (some (bt272.1, bt272.2, 0))) else ((impl_Rows.f k l0_0 l0_1).bind fun t278 => (if 1 ≤ (l0_0.length : Int) then ((impl_joined.f k t278.reverse (l0_0.drop 1)).bind fun bt282 => (some (bt282.1, bt282.2.1, bt282.2.2))) else (none)))) else (some (([] : List Int), ([] : List Int), 1))) = some (r1, r2, r3) := H
 have A2 := Aside0.mk A20
 clear A20
 by_cases c3 : t271 = true
 ·
  subst c3
  have H1 : (if (l0_0.length : Int) = 0 then ((impl_copyArray.f l0_0 l0_1).bind fun bt272 => (some (bt272.1, bt272.2, 0))) else ((impl_Rows.f k l0_0 l0_1).bind fun t278 => (if 1 ≤ (l0_0.length : Int) then ((impl_joined.f k t278.reverse (l0_0.drop 1)).bind fun bt282 => (some (bt282.1, bt282.2.1, bt282.2.2))) else (none)))) = some (r1, r2, r3) := by rw [if_pos rfl] at H; exact H
  clear H
  have H := H1
  clear H1
  by_cases c4 : (l0_0.length : Int) = 0
  ·
   rw [if_pos c4] at H
   have c4b0 : ((l0_0.length : Int) == 0) = true := beq_iff_eq.mpr c4
   have c4b1 : ((l0_0.length : Int) != 0) = false := bne_eq_false_iff_eq.mpr c4
   clear c4
   replace H := Option.bind_eq_some_iff.mp H
   obtain ⟨⟨t272, t275⟩, A50, H⟩ := H
   replace H : (some (t272, t275, 0)) = some (r1, r2, r3) := H
   have A5 := Aside0.mk A50
   clear A50
   simp only [Option.some.injEq, Prod.mk.injEq] at H
   obtain ⟨rfl, rfl, rfl⟩ := H
   go_enter Try.func30, Try.ntmps30
   go_wp2_with (first | ((with_reducible refine gate_dst (N := 1) rfl ?_); refine box_event ?hg (N := 1) ?hd (cs := #[.slice A0_0 l0_0.length c0_0, .slice A0_1 l0_1.length c0_1]) (t := 26) ?hr ?_; (case hd => rfl); (case hg => rfl); (case hr => first | (go_simp; done) | (go_simp; rfl)); intro gb269 hg w6 hbox hb; have BK269 := Aside0.mk (hbox); have GW269 := Aside0.mk ((by rw [hg]; exact (below_size (bU HB.out)) : w.heap.size ≤ gb269)); have GE269 := Aside0.mk ((by rw [hg]; exact (below_size (bU HB.out)) : w.heap.size ≤ gb269)); replace HB := Aside0.mk (below_step (bU HB.out) hb); clear hb hbox hg) | ((with_reducible refine gate_dst (N := 2) rfl ?_); refine box_event ?hg (N := 2) ?hd (cs := #[.slice none 0 0, .slice none 0 0]) (t := 26) ?hr ?_; (case hd => rfl); (case hg => rfl); (case hr => first | (go_simp; done) | (go_simp; rfl)); intro gb270 hg w7 hbox hb; have BK270 := Aside0.mk (hbox); have GW270 := Aside0.mk ((by rw [hg]; exact (below_size (bS1 HB.out GE269.out)) : w.heap.size ≤ gb270)); have GE270 := Aside0.mk ((by rw [hg]; exact (below_size (bS1 HB.out GE269.out)) : w.heap.size ≤ gb270)); replace HB := Aside0.mk (below_step (bS1 HB.out GE269.out) hb); have NB269_270 := Aside0.mk (kN BK269.out hg); have NB270_269 := Aside0.mk (kM BK269.out hg); replace BK269 := Aside0.mk (kB BK269.out hb); clear hb hbox hg; have hnb8 := NB269_270.out; have hnc8 := NB270_269.out; have hcz9_0 : w7.cell? ⟨gb269, 0, none⟩ = some (.slice A0_0 l0_0.length c0_0) := (blk_cell BK269.out 0).trans rfl; have hcz9_1 : w7.cell? ⟨gb269, 1, none⟩ = some (.slice A0_1 l0_1.length c0_1) := (blk_cell BK269.out 1).trans rfl; have hfz9_0 := blk_frozen BK269.out 0; have hfz9_1 := blk_frozen BK269.out 1) | ((with_reducible refine gate_callee (f := 36) rfl ?_); refine goesL_ (some 6) rfl rfl Try.func36 (by kernel_rfl) rfl #[.agg #[.slice A0_0 l0_0.length c0_0, .slice A0_1 l0_1.length c0_1]] rfl lU ?_; (with_reducible refine (impl_ArrayOk.calls k _ _ l0_0 _ _ l0_1 true _ ?side1 ?side2 ?side3 ?side4 A2.out).mono ?_); (case side1 => exact cU (Kd.C_below HR0_0.out HB.out)); (case side2 => exact HC0_0.out); (case side3 => exact cU (Kd.C_below HR0_1.out HB.out)); (case side4 => exact HC0_1.out); rintro e w10 ⟨rfl, hb⟩; refine ⟨_, rfl, ?_⟩; replace BK269 := Aside0.mk (kB BK269.out hb); replace BK270 := Aside0.mk (kB BK270.out hb); replace HB := Aside0.mk (below_step (bS2 HB.out GE269.out GE270.out) hb); (try clear hb); (try clear hb2); (try clear hk); (try clear hi); have hcz11_0 : w10.cell? ⟨gb269, 0, none⟩ = some (.slice A0_0 l0_0.length c0_0) := (blk_cell BK269.out 0).trans rfl; have hcz11_1 : w10.cell? ⟨gb269, 1, none⟩ = some (.slice A0_1 l0_1.length c0_1) := (blk_cell BK269.out 1).trans rfl; have hfz11_0 := blk_frozen BK269.out 0; have hfz11_1 := blk_frozen BK269.out 1) | ((with_reducible refine gate_callee (f := 61) rfl ?_); refine goesL_ (some 14) rfl rfl Try.func61 (by kernel_rfl) rfl #[.agg #[.slice A0_0 l0_0.length c0_0, .slice A0_1 l0_1.length c0_1]] rfl lU ?_; (with_reducible refine (impl_copyArray.calls _ _ l0_0 _ _ l0_1 t272 t275 _ ?side1 ?side2 ?side3 ?side4 A5.out).mono ?_); (case side1 => exact cU (Kd.C_below HR0_0.out HB.out)); (case side2 => exact HC0_0.out); (case side3 => exact cU (Kd.C_below HR0_1.out HB.out)); (case side4 => exact HC0_1.out); rintro e w12 ⟨v273, v276, rfl, ho0, ho1, hb⟩; refine ⟨_, rfl, ?_⟩; have HO274 := Aside0.mk (Kd.R_lower ho0 (below_size (bS2 HB.out GE269.out GE270.out))); have HO277 := Aside0.mk (Kd.R_lower ho1 (below_size (bS2 HB.out GE269.out GE270.out))); replace BK269 := Aside0.mk (kB BK269.out hb); replace BK270 := Aside0.mk (kB BK270.out hb); replace HB := Aside0.mk (below_step (bS2 HB.out GE269.out GE270.out) hb); (try clear hb); (try clear hb2); (try clear hk); (try clear hi); (try clear ho0); (try clear ho1); obtain ⟨Ao13, co13, eo13⟩ := Kd.R_slice HO274.out; subst eo13; have hcz14_0 : w12.cell? ⟨gb270, 0, none⟩ = some (.slice none 0 0) := (blk_cell BK270.out 0).trans rfl; have hcz14_1 : w12.cell? ⟨gb270, 1, none⟩ = some (.slice none 0 0) := (blk_cell BK270.out 1).trans rfl; have hfz14_0 := blk_frozen BK270.out 0; have hfz14_1 := blk_frozen BK270.out 1; obtain ⟨Ao15, co15, eo15⟩ := Kd.R_slice HO277.out; subst eo15))
   refine bodyPost_ret (results_ct rfl _ _ gb270 26 #[.slice Ao13 t272.length co13, .slice Ao15 t275.length co15] (0, 0) _ rfl (by refine kU ?_; refine blk_put (cs := #[.slice Ao13 t272.length co13, .slice none 0 0]) ?_ 1 _ rfl; refine kU ?_; refine blk_put (cs := #[.slice none 0 0, .slice none 0 0]) ?_ 0 _ rfl; refine kU ?_; exact BK270.out) Try.underlying26 rfl (by kernel_rfl)) rfl ?_
   exact ⟨_, _, by first | rfl | (simp [errW_none, errW_some] <;> rfl) | (simp [*, errW_none, errW_some] <;> rfl), by refine RU ?_; exact Kd.R_mono (Kd.R_far (p := ⟨gb270, 1, none⟩) (Kd.R_far (p := ⟨gb270, 0, none⟩) (Kd.R_types HO274.out BK270.out (by decide)) (fun _ hk => hk.2) (.slice Ao13 t272.length co13)) (fun _ hk => hk.2) (.slice Ao15 t275.length co15)) (fun _ hk => hk.1), by refine RU ?_; exact Kd.R_mono (Kd.R_far (p := ⟨gb270, 1, none⟩) (Kd.R_far (p := ⟨gb270, 0, none⟩) (Kd.R_types HO277.out BK270.out (by decide)) (fun _ hk => hk.2) (.slice Ao13 t272.length co13)) (fun _ hk => hk.2) (.slice Ao15 t275.length co15)) (fun _ hk => hk.1), by exact bS2 HB.out GE269.out GE270.out⟩
  ·
   rw [if_neg c4] at H
   have c4b0 : ((l0_0.length : Int) == 0) = false := beq_eq_false_iff_ne.mpr c4
   have c4b1 : ((l0_0.length : Int) != 0) = true := bne_iff_ne.mpr c4
   have c4b2 : ¬ (l0_0 = []) := fun h_ => c4 (by rw [h_]; rfl)
   replace H := Option.bind_eq_some_iff.mp H
   obtain ⟨t278, A160, H⟩ := H
   replace H : (if 1 ≤ (l0_0.length : Int) then ((impl_joined.f k t278.reverse (l0_0.drop 1)).bind fun bt282 => (some (bt282.1, bt282.2.1, bt282.2.2))) else (none)) = some (r1, r2, r3) := H
   have A16 := Aside0.mk A160
   clear A160
   by_cases c17 : 1 ≤ (l0_0.length : Int)
   ·
    rw [if_pos c17] at H
    have c17b0 := eq_true c17
    have c17b1 : decide (1 ≤ (l0_0.length : Int)) = true := decide_eq_true c17
    clear c17
    replace H := Option.bind_eq_some_iff.mp H
    obtain ⟨⟨t282, t285, t288⟩, A180, H⟩ := H
    replace H : (some (t282, t285, t288)) = some (r1, r2, r3) := H
    have A18 := Aside0.mk A180
    clear A180
    simp only [Option.some.injEq, Prod.mk.injEq] at H
    obtain ⟨rfl, rfl, rfl⟩ := H
    go_enter Try.func30, Try.ntmps30
    go_wp2_with (first | ((with_reducible refine gate_dst (N := 1) rfl ?_); refine box_event ?hg (N := 1) ?hd (cs := #[.slice A0_0 l0_0.length c0_0, .slice A0_1 l0_1.length c0_1]) (t := 26) ?hr ?_; (case hd => rfl); (case hg => rfl); (case hr => first | (go_simp; done) | (go_simp; rfl)); intro gb269 hg w19 hbox hb; have BK269 := Aside0.mk (hbox); have GW269 := Aside0.mk ((by rw [hg]; exact (below_size (bU HB.out)) : w.heap.size ≤ gb269)); have GE269 := Aside0.mk ((by rw [hg]; exact (below_size (bU HB.out)) : w.heap.size ≤ gb269)); replace HB := Aside0.mk (below_step (bU HB.out) hb); clear hb hbox hg) | ((with_reducible refine gate_dst (N := 2) rfl ?_); refine box_event ?hg (N := 2) ?hd (cs := #[.slice none 0 0, .slice none 0 0]) (t := 26) ?hr ?_; (case hd => rfl); (case hg => rfl); (case hr => first | (go_simp; done) | (go_simp; rfl)); intro gb270 hg w20 hbox hb; have BK270 := Aside0.mk (hbox); have GW270 := Aside0.mk ((by rw [hg]; exact (below_size (bS1 HB.out GE269.out)) : w.heap.size ≤ gb270)); have GE270 := Aside0.mk ((by rw [hg]; exact (below_size (bS1 HB.out GE269.out)) : w.heap.size ≤ gb270)); replace HB := Aside0.mk (below_step (bS1 HB.out GE269.out) hb); have NB269_270 := Aside0.mk (kN BK269.out hg); have NB270_269 := Aside0.mk (kM BK269.out hg); replace BK269 := Aside0.mk (kB BK269.out hb); clear hb hbox hg; have hnb21 := NB269_270.out; have hnc21 := NB270_269.out; have hcz22_0 : w20.cell? ⟨gb269, 0, none⟩ = some (.slice A0_0 l0_0.length c0_0) := (blk_cell BK269.out 0).trans rfl; have hcz22_1 : w20.cell? ⟨gb269, 1, none⟩ = some (.slice A0_1 l0_1.length c0_1) := (blk_cell BK269.out 1).trans rfl; have hfz22_0 := blk_frozen BK269.out 0; have hfz22_1 := blk_frozen BK269.out 1) | ((with_reducible refine gate_callee (f := 36) rfl ?_); refine goesL_ (some 6) rfl rfl Try.func36 (by kernel_rfl) rfl #[.agg #[.slice A0_0 l0_0.length c0_0, .slice A0_1 l0_1.length c0_1]] rfl lU ?_; (with_reducible refine (impl_ArrayOk.calls k _ _ l0_0 _ _ l0_1 true _ ?side1 ?side2 ?side3 ?side4 A2.out).mono ?_); (case side1 => exact cU (Kd.C_below HR0_0.out HB.out)); (case side2 => exact HC0_0.out); (case side3 => exact cU (Kd.C_below HR0_1.out HB.out)); (case side4 => exact HC0_1.out); rintro e w23 ⟨rfl, hb⟩; refine ⟨_, rfl, ?_⟩; replace BK269 := Aside0.mk (kB BK269.out hb); replace BK270 := Aside0.mk (kB BK270.out hb); replace HB := Aside0.mk (below_step (bS2 HB.out GE269.out GE270.out) hb); (try clear hb); (try clear hb2); (try clear hk); (try clear hi); have hcz24_0 : w23.cell? ⟨gb269, 0, none⟩ = some (.slice A0_0 l0_0.length c0_0) := (blk_cell BK269.out 0).trans rfl; have hcz24_1 : w23.cell? ⟨gb269, 1, none⟩ = some (.slice A0_1 l0_1.length c0_1) := (blk_cell BK269.out 1).trans rfl; have hfz24_0 := blk_frozen BK269.out 0; have hfz24_1 := blk_frozen BK269.out 1) | ((with_reducible refine gate_callee (f := 32) rfl ?_); refine goesL_ (some 16) rfl rfl Try.func32 (by kernel_rfl) rfl #[.agg #[.slice A0_0 l0_0.length c0_0, .slice A0_1 l0_1.length c0_1]] rfl lU ?_; (with_reducible refine (impl_Rows.calls k _ _ l0_0 _ _ l0_1 t278 _ ?side1 ?side2 ?side3 ?side4 A16.out).mono ?_); (case side1 => exact cU (Kd.C_below HR0_0.out HB.out)); (case side2 => exact HC0_0.out); (case side3 => exact cU (Kd.C_below HR0_1.out HB.out)); (case side4 => exact HC0_1.out); rintro e w25 ⟨v279, rfl, ho0, hb⟩; refine ⟨_, rfl, ?_⟩; have HO280 := Aside0.mk (Kd.S_lower (Kd.S_newB (Kd.S_newB ho0 (g := gb269) (o := .cells #[.slice A0_0 l0_0.length c0_0, .slice A0_1 l0_1.length c0_1] 26 (0, 0)) (kU BK269.out)) (g := gb270) (o := .cells #[.slice none 0 0, .slice none 0 0] 26 (0, 0)) (kU BK270.out)) (below_size (bS2 HB.out GE269.out GE270.out))); replace BK269 := Aside0.mk (kB BK269.out hb); replace BK270 := Aside0.mk (kB BK270.out hb); replace HB := Aside0.mk (below_step (bS2 HB.out GE269.out GE270.out) hb); (try clear hb); (try clear hb2); (try clear hk); (try clear hi); (try clear ho0); have hcz26_0 : w25.cell? ⟨gb269, 0, none⟩ = some (.slice A0_0 l0_0.length c0_0) := (blk_cell BK269.out 0).trans rfl; have hcz26_1 : w25.cell? ⟨gb269, 1, none⟩ = some (.slice A0_1 l0_1.length c0_1) := (blk_cell BK269.out 1).trans rfl; have hfz26_0 := blk_frozen BK269.out 0; have hfz26_1 := blk_frozen BK269.out 1; obtain ⟨i027, hi027, _, hsz27, _⟩ := info_parts info3; obtain ⟨A27, hcut27, hA27, hC27⟩ := print_drop_of (P := Try.prog) (Value.int .i64) 0 22 3 .i64 Try.underlying22 hi027 hsz27 A0_0 c0_0 l0_0 1 (by omega) (of_decide_eq_true (by first | (with_reducible assumption) | assumption)) HC0_0.out; have HR281 := Aside0.mk (Kd.C_of_reads (h1 := fun _ => rfl) (hA27 _ (Kd.reads_of_C HR0_0.out))); have HC281 := Aside0.mk hC27; clear hA27 hC27 hi027 hsz27; obtain ⟨Ao28, co28, eo28⟩ := Kd.S_slice HO280.out; subst eo28) | ((with_reducible refine gate_callee (f := 77) rfl ?_); refine goesL_ (some 18) rfl rfl Try.func77 (by kernel_rfl) rfl #[.slice Ao28 t278.length co28] rfl lU ?_; (with_reducible refine (rev_S (d := k26) (e := 26) (base := w.heap.size) (v := .slice Ao28 t278.length co28) (xs := t278) rfl (SU HO280.out)).mono ?_); rintro e w25r ⟨rfl, hg_, ho0⟩; refine ⟨_, rfl, ?_⟩; have hok_ := (Kd.S_R (Kd.S_bound HO280.out)).1; have ngb269_ : w25r.heap[gb269]? = some (.cells #[.slice A0_0 l0_0.length c0_0, .slice A0_1 l0_1.length c0_1] 26 (0, 0)) := blk_grown (kU BK269.out) hg_ (fun e_ => by have := (hok_ _ e_.symm).1; simp at this); clear BK269; have BK269 := Aside0.mk ngb269_; clear ngb269_; have ngb270_ : w25r.heap[gb270]? = some (.cells #[.slice none 0 0, .slice none 0 0] 26 (0, 0)) := blk_grown (kU BK270.out) hg_ (fun e_ => by have := (hok_ _ e_.symm).1; simp at this); clear BK270; have BK270 := Aside0.mk ngb270_; clear ngb270_; have nHB_ : Below w.heap.size w w25r := Below.grown (bS2 HB.out GE269.out GE270.out) hg_ (below_size (bS2 HB.out GE269.out GE270.out)) (fun k_ hk_ => (hok_ k_ hk_).2.1); clear HB; have HB := Aside0.mk nHB_; clear nHB_; clear hok_; clear hg_; clear HO280; have HO280 := Aside0.mk ho0; clear ho0; have hcz26_0r : w25r.cell? ⟨gb269, 0, none⟩ = some (.slice A0_0 l0_0.length c0_0) := (blk_cell BK269.out 0).trans rfl; have hcz26_1r : w25r.cell? ⟨gb269, 1, none⟩ = some (.slice A0_1 l0_1.length c0_1) := (blk_cell BK269.out 1).trans rfl; have hfz26_0r := blk_frozen BK269.out 0; have hfz26_1r := blk_frozen BK269.out 1) | ((with_reducible refine gate_callee (f := 78) rfl ?_); refine goesL_ (some 23) rfl rfl Try.func78 (by kernel_rfl) rfl #[.slice Ao28 t278.reverse.length co28, .slice A27 (l0_0.drop 1).length (c0_0 - 1)] rfl (by (try simp only [List.map_toArray, List.map_cons, List.map_nil, List.length_reverse]); first | done | (rw [show (l0_0.drop 1).length = (l0_0.length - 1) from List.length_drop] <;> rfl) | rfl | (simp only [List.length_drop, List.length_take]; rfl)) ?_; (with_reducible refine (impl_joined.calls k _ _ t278.reverse _ _ (l0_0.drop 1) t282 t285 t288 _ ?side1 ?side2 ?side3 ?side4 A18.out).mono ?_); (case side1 => exact cU (Kd.S_reads' HO280.out).2.2); (case side2 => rw [List.length_reverse]; exact (Kd.S_reads' HO280.out).2.1); (case side3 => exact cU (Kd.C_below HR281.out HB.out)); (case side4 => exact HC281.out); rintro e w29 ⟨v283, v286, rfl, ho0, ho1, hb⟩; refine ⟨_, rfl, ?_⟩; replace HO280 := Aside0.mk (Kd.S_mono (Kd.S_told (Kd.S_told (Kd.S_old (SU HO280.out) hb) (Kd.R_base ho0)) (Kd.R_base ho1)) (fun _ h_ => h_.1)); have HO284 := Aside0.mk (Kd.R_lower ho0 (below_size (bS2 HB.out GE269.out GE270.out))); have HO287 := Aside0.mk (Kd.R_lower ho1 (below_size (bS2 HB.out GE269.out GE270.out))); replace BK269 := Aside0.mk (kB BK269.out hb); replace BK270 := Aside0.mk (kB BK270.out hb); replace HB := Aside0.mk (below_step (bS2 HB.out GE269.out GE270.out) hb); (try clear hb); (try clear hb2); (try clear hk); (try clear hi); (try clear ho0); (try clear ho1); obtain ⟨Ao30, co30, eo30⟩ := Kd.R_slice HO284.out; subst eo30; have hcz31_0 : w29.cell? ⟨gb270, 0, none⟩ = some (.slice none 0 0) := (blk_cell BK270.out 0).trans rfl; have hcz31_1 : w29.cell? ⟨gb270, 1, none⟩ = some (.slice none 0 0) := (blk_cell BK270.out 1).trans rfl; have hfz31_0 := blk_frozen BK270.out 0; have hfz31_1 := blk_frozen BK270.out 1; obtain ⟨Ao32, co32, eo32⟩ := Kd.R_slice HO287.out; subst eo32))
    refine bodyPost_ret (results_ct rfl _ _ gb270 26 #[.slice Ao30 t282.length co30, .slice Ao32 t285.length co32] (0, 0) _ rfl (by refine kU ?_; refine blk_put (cs := #[.slice Ao30 t282.length co30, .slice none 0 0]) ?_ 1 _ rfl; refine kU ?_; refine blk_put (cs := #[.slice none 0 0, .slice none 0 0]) ?_ 0 _ rfl; refine kU ?_; exact BK270.out) Try.underlying26 rfl (by kernel_rfl)) rfl ?_
    exact ⟨_, _, by first | rfl | (simp [errW_none, errW_some] <;> rfl) | (simp [*, errW_none, errW_some] <;> rfl), by refine RU ?_; exact Kd.R_mono (Kd.R_far (p := ⟨gb270, 1, none⟩) (Kd.R_far (p := ⟨gb270, 0, none⟩) (Kd.R_types HO284.out BK270.out (by decide)) (fun _ hk => hk.2) (.slice Ao30 t282.length co30)) (fun _ hk => hk.2) (.slice Ao32 t285.length co32)) (fun _ hk => hk.1), by refine RU ?_; exact Kd.R_mono (Kd.R_far (p := ⟨gb270, 1, none⟩) (Kd.R_far (p := ⟨gb270, 0, none⟩) (Kd.R_types HO287.out BK270.out (by decide)) (fun _ hk => hk.2) (.slice Ao30 t282.length co30)) (fun _ hk => hk.2) (.slice Ao32 t285.length co32)) (fun _ hk => hk.1), by exact bS2 HB.out GE269.out GE270.out⟩
   ·
    rw [if_neg c17] at H
    exact absurd H (by simp)
 ·
  replace c3 := Bool.eq_false_iff.mpr c3
  subst c3
  have H1 : (some (([] : List Int), ([] : List Int), 1)) = some (r1, r2, r3) := by rw [if_neg (show ¬ (false = true) by decide)] at H; exact H
  clear H
  have H := H1
  clear H1
  simp only [Option.some.injEq, Prod.mk.injEq] at H
  obtain ⟨rfl, rfl, rfl⟩ := H
  go_enter Try.func30, Try.ntmps30
  go_wp2_with (first | ((with_reducible refine gate_dst (N := 1) rfl ?_); refine box_event ?hg (N := 1) ?hd (cs := #[.slice A0_0 l0_0.length c0_0, .slice A0_1 l0_1.length c0_1]) (t := 26) ?hr ?_; (case hd => rfl); (case hg => rfl); (case hr => first | (go_simp; done) | (go_simp; rfl)); intro gb269 hg w33 hbox hb; have BK269 := Aside0.mk (hbox); have GW269 := Aside0.mk ((by rw [hg]; exact (below_size (bU HB.out)) : w.heap.size ≤ gb269)); have GE269 := Aside0.mk ((by rw [hg]; exact (below_size (bU HB.out)) : w.heap.size ≤ gb269)); replace HB := Aside0.mk (below_step (bU HB.out) hb); clear hb hbox hg) | ((with_reducible refine gate_dst (N := 2) rfl ?_); refine box_event ?hg (N := 2) ?hd (cs := #[.slice none 0 0, .slice none 0 0]) (t := 26) ?hr ?_; (case hd => rfl); (case hg => rfl); (case hr => first | (go_simp; done) | (go_simp; rfl)); intro gb270 hg w34 hbox hb; have BK270 := Aside0.mk (hbox); have GW270 := Aside0.mk ((by rw [hg]; exact (below_size (bS1 HB.out GE269.out)) : w.heap.size ≤ gb270)); have GE270 := Aside0.mk ((by rw [hg]; exact (below_size (bS1 HB.out GE269.out)) : w.heap.size ≤ gb270)); replace HB := Aside0.mk (below_step (bS1 HB.out GE269.out) hb); have NB269_270 := Aside0.mk (kN BK269.out hg); have NB270_269 := Aside0.mk (kM BK269.out hg); replace BK269 := Aside0.mk (kB BK269.out hb); clear hb hbox hg; have hnb35 := NB269_270.out; have hnc35 := NB270_269.out; have hcz36_0 : w34.cell? ⟨gb269, 0, none⟩ = some (.slice A0_0 l0_0.length c0_0) := (blk_cell BK269.out 0).trans rfl; have hcz36_1 : w34.cell? ⟨gb269, 1, none⟩ = some (.slice A0_1 l0_1.length c0_1) := (blk_cell BK269.out 1).trans rfl; have hfz36_0 := blk_frozen BK269.out 0; have hfz36_1 := blk_frozen BK269.out 1) | ((with_reducible refine gate_callee (f := 36) rfl ?_); refine goesL_ (some 6) rfl rfl Try.func36 (by kernel_rfl) rfl #[.agg #[.slice A0_0 l0_0.length c0_0, .slice A0_1 l0_1.length c0_1]] rfl lU ?_; (with_reducible refine (impl_ArrayOk.calls k _ _ l0_0 _ _ l0_1 false _ ?side1 ?side2 ?side3 ?side4 A2.out).mono ?_); (case side1 => exact cU (Kd.C_below HR0_0.out HB.out)); (case side2 => exact HC0_0.out); (case side3 => exact cU (Kd.C_below HR0_1.out HB.out)); (case side4 => exact HC0_1.out); rintro e w37 ⟨rfl, hb⟩; refine ⟨_, rfl, ?_⟩; replace BK269 := Aside0.mk (kB BK269.out hb); replace BK270 := Aside0.mk (kB BK270.out hb); replace HB := Aside0.mk (below_step (bS2 HB.out GE269.out GE270.out) hb); (try clear hb); (try clear hb2); (try clear hk); (try clear hi); have hcz38_0 : w37.cell? ⟨gb270, 0, none⟩ = some (.slice none 0 0) := (blk_cell BK270.out 0).trans rfl; have hcz38_1 : w37.cell? ⟨gb270, 1, none⟩ = some (.slice none 0 0) := (blk_cell BK270.out 1).trans rfl; have hfz38_0 := blk_frozen BK270.out 0; have hfz38_1 := blk_frozen BK270.out 1))
  refine bodyPost_ret (results_ct rfl _ _ gb270 26 #[.slice none 0 0, .slice none 0 0] (0, 0) _ rfl (by refine kU ?_; refine blk_put (cs := #[.slice none 0 0, .slice none 0 0]) ?_ 1 _ rfl; refine kU ?_; refine blk_put (cs := #[.slice none 0 0, .slice none 0 0]) ?_ 0 _ rfl; refine kU ?_; exact BK270.out) Try.underlying26 rfl (by kernel_rfl)) rfl ?_
  exact ⟨_, _, by first | rfl | (simp [errW_none, errW_some] <;> rfl) | (simp [*, errW_none, errW_some] <;> rfl), by first | exact Kd.R_nil _ _ _ _ _ | exact Kd.N_nil _ _ _ _ _ | exact Kd.V_nil _ _ _ _ _ | exact Kd.Q_nil _ _ _ _ _ | exact Kd.S_nil _ _ _ _ _, by first | exact Kd.R_nil _ _ _ _ _ | exact Kd.N_nil _ _ _ _ _ | exact Kd.V_nil _ _ _ _ _ | exact Kd.Q_nil _ _ _ _ _ | exact Kd.S_nil _ _ _ _ _, by exact bS2 HB.out GE269.out GE270.out⟩

end Go.Proofs.Ytcnbajdnlkcjjaa.PFnExactTurn
