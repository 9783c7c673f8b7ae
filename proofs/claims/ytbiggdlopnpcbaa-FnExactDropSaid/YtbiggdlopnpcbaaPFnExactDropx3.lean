/- The walk of what a law reaches, for the law's row: written by a program of this session; it has no condition of its own. -/
import Derived.Test.YtbiggdlopnpcbaaPFnExactDropx0
import Derived.Test.YtbiggdlopnpcbaaQ
import Derived.Test.YtbiggdlopnpcbaaPFnExactDropx1
import Derived.Test.YtbiggdlopnpcbaaPFnExactDropx2
namespace Go.Proofs.Ytbiggdlopnpcbaa.PFnExactDrop
open Go.RowKit Go.Proofs.YtbiggdlopnpcbaaW.PrintWords Go.Proofs.YtbiggdlopnpcbaaW.PrintLast Go.Proofs.YtbiggdlopnpcbaaW.PrintMore Go.Proofs.YtbiggdlopnpcbaaQ
attribute [local go_sem] max2_int min2_int max_two min_two max_three min_three max_four min_four   -- for this text's walks alone
set_option linter.unusedVariables false
set_option linter.unusedSimpArgs false

/-! ### spec_l5Rows: function 33 -/
def spec_l5Rows.l0 : Nat → List (S26) → Int → List Int → List Int → Option (List Int × List Int)
 | 0, _, _, _, _ => none
 | k + 1, x0, x6, x163000, x163001 => if x6 < (x0.length : Int) then (if 0 ≤ x6 then (if x163001.length + ((rd_T26 x0 x6).f1).length < 17592186044416 then (spec_l5Rows.l0 k x0 (wrap64 (x6 + 1)) x163000 (x163001 ++ ((rd_T26 x0 x6).f1))) else (none)) else (none)) else (some (x163000, x163001))
def spec_l5Rows.f (k : Nat) (l0 : List (S26)) (l1 : List Int) : Option (List Int × List Int) := (some (([(l0.length : Int)] : List Int) : List Int)).bind fun y156 => (if y156.length + l1.length < 17592186044416 then (spec_l5Rows.l0 k l0 0 (y156 ++ l1) ([] : List Int)) else (none))
theorem spec_l5Rows.mono_l : ∀ k, (∀ y0 y1 y2 y3, LeO (spec_l5Rows.l0 k y0 y1 y2 y3) (spec_l5Rows.l0 (k + 1) y0 y1 y2 y3))
 | 0 => fun _ _ _ _ r h => by simp [spec_l5Rows.l0] at h
 | k + 1 => by
  have ih0 := spec_l5Rows.mono_l k
  ·
   intro y0 y1 y2 y3
   unfold spec_l5Rows.l0
   repeat' first
   | (with_reducible exact ih0 _ _ _ _)
   | (with_reducible exact LeO.refl _)
   | (with_reducible exact LeO.none _)
   | (with_reducible refine LeO.ite ?_ ?_)
   | (with_reducible refine LeO.bind ?_ (fun _ => ?_))
   | exact ih0 _ _ _ _
   | exact LeO.none _
   | refine LeO.ite ?_ ?_
   | refine LeO.bind ?_ (fun _ => ?_)
theorem spec_l5Rows.mono : ∀ a0 a1 k, LeO (spec_l5Rows.f k a0 a1) (spec_l5Rows.f (k + 1) a0 a1) := by
 intro a0 a1 k
 have ih0 := spec_l5Rows.mono_l k
 unfold spec_l5Rows.f
 repeat' first
   | (with_reducible exact ih0 _ _ _ _)
   | (with_reducible exact LeO.refl _)
   | (with_reducible exact LeO.none _)
   | (with_reducible refine LeO.ite ?_ ?_)
   | (with_reducible refine LeO.bind ?_ (fun _ => ?_))
   | exact ih0 _ _ _ _
   | exact LeO.none _
   | refine LeO.ite ?_ ?_
   | refine LeO.bind ?_ (fun _ => ?_)
def spec_l5Rows.T5 : Bool × List (List Nat × List Nat) := (true, [([], []), ([0], [0]), ([], []), ([], []), ([2, 3], [2, 3]), ([4], [4]), ([5], [5]), ([1, 6], [1, 6]), ([0, 1, 2, 3, 4, 5, 6, 7], []), ([8, 7, 7, 0, 1, 2, 3, 4, 5, 6, 7], [7, 8])])
def spec_l5Rows.B5 : List Nat := [0, 1, 0, 0, 12, 28, 60, 127, 255, 511]
theorem spec_l5Rows.tab5 : rtab .any (opsOf Try.f33 5) = spec_l5Rows.T5 := by kernel_rfl
theorem spec_l5Rows.bits5 : waitsOk spec_l5Rows.T5.2 spec_l5Rows.B5 = true := by kernel_rfl
set_option maxHeartbeats 8000000 in
set_option maxRecDepth 100000 in
theorem spec_l5Rows.calls (k : Nat) (A0 : Option Addr) (c0 : Nat) (l0 : List (S26)) (A1 : Option Addr) (c1 : Nat) (l1 : List Int) (r1 : List Int) (r2 : List Int) (w : World) (hr0 : Kd.C k26 w A0 l0.length l0) (hc0 : l0.length ≤ c0) (hr1 : Kd.C (Kd.int .i64) w A1 l1.length l1) (hc1 : l1.length ≤ c1) (h : spec_l5Rows.f k l0 l1 = some (r1, r2)) :
  Calls Try.prog 33 #[.slice A0 l0.length c0, .slice A1 l1.length c1] w fun e w' => ∃ v0_ v1_ : Value, e = .returned (.agg #[v0_, v1_]) ∧ Kd.R (Kd.int .i64) 3 w' w.heap.size (fun k_ => some k_ ≠ (v1_ : Value).ownBlock) v0_ r1 ∧ Kd.R (Kd.int .i64) 3 w' w.heap.size (fun k_ => some k_ ≠ (v0_ : Value).ownBlock) v1_ r2 ∧ Below w.heap.size w w' := by
 have hu26 := Try.underlying26
 have HR0 := Aside0.mk hr0
 have HC0 := Aside0.mk hc0
 clear hr0 hc0
 have HR1 := Aside0.mk hr1
 have HC1 := Aside0.mk hc1
 clear hr1 hc1
 have HB := Aside0.mk (Below.refl w.heap.size w)
 have H : ((some (([(l0.length : Int)] : List Int) : List Int)).bind fun y156 => (if y156.length + l1.length < 17592186044416 then (spec_l5Rows.l0 k l0 0 (y156 ++ l1) ([] : List Int)) else (none))) = some (r1, r2) := h
 clear h
 obtain ⟨y156, hy156⟩ : ∃ y_ : List Int, y_ = (([(l0.length : Int)] : List Int)) := ⟨_, rfl⟩
 replace H : (if y156.length + l1.length < 17592186044416 then (spec_l5Rows.l0 k l0 0 (y156 ++ l1) ([] : List Int)) else (none)) = some (r1, r2) := by first | (rw [hy156]; with_reducible exact H) | (have H2_ := (Option.bind_some _ _).symm.trans H; rw [hy156]; with_reducible exact H2_) | (have H2_ := (Option.bind_some _ _).symm.trans H; with_reducible exact H2_) | with_reducible exact H | (rw [hy156]; exact H) | exact H
 have Ny156 := Aside0.mk hy156
 clear hy156
 by_cases c3 : y156.length + l1.length < 17592186044416
 ·
  rw [if_pos c3] at H
  have LMc3 := Aside0.mk c3
  clear c3
  obtain ⟨y159, hy159⟩ : ∃ y_ : List Int, y_ = (y156 ++ l1) := ⟨_, rfl⟩
  replace H : (spec_l5Rows.l0 k l0 0 y159 ([] : List Int)) = some (r1, r2) := by first | (rw [hy159]; with_reducible exact H) | (have H2_ := (Option.bind_some _ _).symm.trans H; rw [hy159]; with_reducible exact H2_) | (have H2_ := (Option.bind_some _ _).symm.trans H; with_reducible exact H2_) | with_reducible exact H | (rw [hy159]; exact H) | exact H
  have Ny159 := Aside0.mk hy159
  clear hy159
  have H' := Aside0.mk H
  clear H
  go_enter Try.func33, Try.ntmps33
  go_wp2_with (first | ((with_reducible refine gate_dst (N := 4) rfl ?_); refine box_event ?hg (N := 4) ?hd (cs := #[.slice none 0 0, .slice none 0 0]) (t := 26) ?hr ?_; (case hd => rfl); (case hg => rfl); (case hr => first | (go_simp; done) | (go_simp; rfl)); intro gb155 hg w4 hbox hb; have BK155 := Aside0.mk (hbox); have GW155 := Aside0.mk ((by rw [hg]; exact (below_size (bU HB.out)) : w.heap.size ≤ gb155)); have GE155 := Aside0.mk ((by rw [hg]; exact (below_size (bU HB.out)) : w.heap.size ≤ gb155)); replace HB := Aside0.mk (below_step (bU HB.out) hb); clear hb hbox hg) | ((with_reducible refine gate_dst (N := 9) rfl ?_); refine Kd.R_lit (Kd.int .i64) _ 3 ?hg (N := 9) ?hd (xs := ([(l0.length : Int)] : List Int)) (inner := [.int .i64 (l0.length : Int)]) (ok := fun _ => True) (okp := fun _ => True) ?hr ?hp (fun _ hk => hk) trivial (Below.refl _ _) (Nat.le_refl _) (by simp) ?_; (case hd => rfl); (case hg => rfl); (case hr => first | (go_simp; done) | (go_simp; rfl)); (case hp => exact (Reps.one (show Kd.M (Kd.int .i64) _ _ _ (l0.length : Int) [.int .i64 (l0.length : Int)] from rfl) (Reps.none _ _))); intro v157 w5 ho6 hb hg_ hnew_; clear hg_ hnew_; (first | rw [← Ny156.out] at ho6 | (simp only [Int.reduceToNat] at ho6; rw [← Ny156.out] at ho6)); have HO158 := Aside0.mk (Kd.R_lower ho6 (below_size (bS1 HB.out GE155.out))); replace BK155 := Aside0.mk (blk_below (g := gb155) (o := .cells #[.slice none 0 0, .slice none 0 0] 26 (0, 0)) (kU BK155.out) hb); replace HB := Aside0.mk (below_step (bS1 HB.out GE155.out) hb); clear hb ho6) | ((with_reducible refine gate_builtin (b := .append) (xs := #[.tmp 9, .tmp 10]) rfl ?_); at_builtin; refine Kd.R_append_rows (Kd.int .i64) (w0 := w) w.heap.size rfl (.tmp 9) (.tmp 10) 22 3 (.int .i64 0) 8 rfl Try.underlying22 info3 rfl (by decide) (by omega) v157 y156 l1 _ _ _ (fun _ => True) (fun _ => False) rfl rfl ?aO ?aR (fun _ _ h => h) (fun _ h => h.elim) ?aF ?aB ?aS ?aL ?_; (case aR => exact cU (Kd.C_below HR1.out HB.out)); (case aB => exact (bS1 HB.out GE155.out)); (case aF => exact (fun _ _ => trivial)); (case aO => exact (RU HO158.out)); (case aS => exact (below_size (bS1 HB.out GE155.out))); (case aL => have := LMc3.out; omega); intro v160 w7 ho hb hg hat; rw [← Ny159.out] at ho; have n0_ := Aside0.mk (blk_grown (g := gb155) (o := .cells #[.slice none 0 0, .slice none 0 0] 26 (0, 0)) (kU BK155.out) hg (Kd.R_ne HO158.out BK155.out (by decide))); have n1_ := Aside0.mk (hb); have n2_ := Aside0.mk (ho); clear BK155; clear HB; clear HO158; have BK155 := n0_; have HB := n1_; have HO161 := n2_; clear n0_ n1_ n2_; clear ho hb hg hat; obtain ⟨Ao8, co8, eo8⟩ := Kd.R_slice HO161.out; subst eo8) | ((with_reducible refine gate_dst (N := 5) rfl ?_); refine box_event ?hg (N := 5) ?hd (cs := #[.slice none 0 0, .slice none 0 0]) (t := 26) ?hr ?_; (case hd => rfl); (case hg => rfl); (case hr => first | (go_simp; done) | (go_simp; rfl)); intro gb162 hg w9 hbox hb; replace HO161 := Aside0.mk (Kd.R_below (RU HO161.out) hb); have BK162 := Aside0.mk (hbox); have GW162 := Aside0.mk ((by rw [hg]; exact (below_size (bS1 HB.out GE155.out)) : w.heap.size ≤ gb162)); have GE162 := Aside0.mk ((by rw [hg]; exact (below_size (bS1 HB.out GE155.out)) : w.heap.size ≤ gb162)); replace HB := Aside0.mk (below_step (bS1 HB.out GE155.out) hb); have NB155_162 := Aside0.mk ((by rw [hg]; exact Nat.ne_of_lt (blk_lt (g := gb155) (o := .cells #[.slice none 0 0, .slice none 0 0] 26 (0, 0)) (kU BK155.out)) : gb155 ≠ gb162)); have NB162_155 := Aside0.mk ((by rw [hg]; exact Nat.ne_of_gt (blk_lt (g := gb155) (o := .cells #[.slice none 0 0, .slice none 0 0] 26 (0, 0)) (kU BK155.out)) : gb162 ≠ gb155)); replace BK155 := Aside0.mk (blk_below (g := gb155) (o := .cells #[.slice none 0 0, .slice none 0 0] 26 (0, 0)) (kU BK155.out) hb); clear hb hbox hg; have hnb10 := NB162_155.out; have hnc10 := NB155_162.out; have hcz11_0 : w9.cell? ⟨gb162, 0, none⟩ = some (.slice none 0 0) := (blk_cell BK162.out 0).trans rfl; have hcz11_1 : w9.cell? ⟨gb162, 1, none⟩ = some (.slice none 0 0) := (blk_cell BK162.out 1).trans rfl; have hfz11_0 := blk_frozen BK162.out 0; have hfz11_1 := blk_frozen BK162.out 1))
  go_loopg [6] k (fun kq v6 w' => ∃ (x6_1 : Int) (x163001_1 : List Int) (u163001 : Value), v6 = .int .i64 x6_1 ∧ Aside0 (spec_l5Rows.l0 kq l0 x6_1 y159 x163001_1 = some (r1, r2)) ∧ Aside0 (kq ≤ k) ∧ Aside0 (Kd.R (Kd.int .i64) 3 w' w.heap.size (fun k_ => some k_ ≠ (u163001 : Value).ownBlock) (.slice Ao8 y159.length co8) y159) ∧ Aside0 (Kd.R (Kd.int .i64) 3 w' w.heap.size (fun k_ => some k_ ≠ ((.slice Ao8 y159.length co8) : Value).ownBlock) u163001 x163001_1) ∧ Aside0 (w'.heap[gb155]? = some (.cells #[(.slice none 0 0), (.slice none 0 0)] 26 (0, 0))) ∧ Aside0 (w'.heap[gb162]? = some (.cells #[(.slice Ao8 y159.length co8), u163001] 26 (0, 0))) ∧ Aside0 (Below w.heap.size w w'))
  case atStart => exact ⟨(0), (([] : List Int)), (.slice none 0 0), (by first | rfl | (simp; done) | (simp [*]; done)), H', ⟨Nat.le_refl _⟩, ⟨by (with_reducible repeat (first | apply Kd.R_alloc | apply Kd.R_drewN | apply Kd.R_drew)); exact Kd.R_mono (Kd.R_far (p := ⟨gb162, 1, none⟩) (Kd.R_far (p := ⟨gb162, 0, none⟩) (Kd.R_types HO161.out BK162.out (by decide)) (fun _ hk => hk.2) (.slice Ao8 y159.length co8)) (fun _ hk => hk.2) (.slice none 0 0)) (fun _ hk => (by simp [Value.ownBlock]))⟩, ⟨by first | exact Kd.R_nil _ _ _ _ _ | exact Kd.N_nil _ _ _ _ _ | exact Kd.V_nil _ _ _ _ _ | exact Kd.Q_nil _ _ _ _ _ | exact Kd.S_nil _ _ _ _ _⟩, ⟨by (with_reducible repeat (first | refine blk_drewN ?_ _ | refine blk_drew ?_ | refine blk_alloc ?_ _)); refine blk_far ?_ NB155_162.out _; (with_reducible repeat (first | refine blk_drewN ?_ _ | refine blk_drew ?_ | refine blk_alloc ?_ _)); refine blk_far ?_ NB155_162.out _; (with_reducible repeat (first | refine blk_drewN ?_ _ | refine blk_drew ?_ | refine blk_alloc ?_ _)); exact BK155.out⟩, ⟨by (with_reducible repeat (first | refine blk_drewN ?_ _ | refine blk_drew ?_ | refine blk_alloc ?_ _)); refine blk_put (cs := #[.slice Ao8 y159.length co8, .slice none 0 0]) ?_ 1 _ rfl; (with_reducible repeat (first | refine blk_drewN ?_ _ | refine blk_drew ?_ | refine blk_alloc ?_ _)); refine blk_put (cs := #[.slice none 0 0, .slice none 0 0]) ?_ 0 _ rfl; (with_reducible repeat (first | refine blk_drewN ?_ _ | refine blk_drew ?_ | refine blk_alloc ?_ _)); exact BK162.out⟩, ⟨by repeat (first | (with_reducible first | exact HB.out | apply below_alloc | apply pw_below_drewN | apply below_drew1 | refine below_set ?_ GE155.out | refine below_set ?_ GE162.out) | exact HB.out)⟩⟩
  case round =>
   clear H'
   try clear c1
   try clear p2
   try clear c3
   try clear c10
   try clear hcz11_0
   try clear hcz11_1
   try clear hfz11_0
   try clear hfz11_1
   obtain ⟨x6_1, x163001_1, u163001, rfl, HA, HK1, HO_163000, HO_163001, BK155, BK162, HB⟩ := hrel
   cases gk with
   | zero => exact absurd HA.out (by simp [spec_l5Rows.l0])
   | succ k1 =>
    have H := HA.out
    clear HA
    simp only [spec_l5Rows.l0] at H
    by_cases c12 : x6_1 < (l0.length : Int)
    ·
     rw [if_pos c12] at H
     have c12b0 : decide (x6_1 < (l0.length : Int)) = true := decide_eq_true c12
     clear c12
     by_cases c13 : 0 ≤ x6_1
     ·
      rw [if_pos c13] at H
      have c13b0 : decide (0 ≤ x6_1) = true := decide_eq_true c13
      clear c13
      by_cases c14 : x163001_1.length + ((rd_T26 l0 x6_1).f1).length < 17592186044416
      ·
       rw [if_pos c14] at H
       have LMc14 := Aside0.mk c14
       clear c14
       obtain ⟨y164, hy164⟩ : ∃ y_ : List Int, y_ = (x163001_1 ++ ((rd_T26 l0 x6_1).f1)) := ⟨_, rfl⟩
       replace H : (spec_l5Rows.l0 k1 l0 (wrap64 (x6_1 + 1)) y159 y164) = some (r1, r2) := by first | (rw [hy164]; with_reducible exact H) | (have H2_ := (Option.bind_some _ _).symm.trans H; rw [hy164]; with_reducible exact H2_) | (have H2_ := (Option.bind_some _ _).symm.trans H; with_reducible exact H2_) | with_reducible exact H | (rw [hy164]; exact H) | exact H
       have Ny164 := Aside0.mk hy164
       clear hy164
       have H' := Aside0.mk H
       clear H
       try go_wp2
       replace HO_163000 := Aside0.mk (Kd.R_drew HO_163000.out)
       replace HO_163001 := Aside0.mk (Kd.R_drew HO_163001.out)
       replace BK155 := Aside0.mk (blk_drew BK155.out)
       replace BK162 := Aside0.mk (blk_drew BK162.out)
       replace HB := Aside0.mk (below_drew1 HB.out)
       have p163 : 0 ≤ (x6_1 : Int) := of_decide_eq_true (by first | (with_reducible assumption) | assumption)
       have q163 : x6_1 < (l0.length : Int) := of_decide_eq_true (by first | (with_reducible assumption) | assumption)
       obtain ⟨ad163, A163_0, c163_0, A163_1, c163_1, e163, hx163_0, hx163_1, hl163_0, hi163_0, hl163_1, hi163_1⟩ := at_T26 HR0.out x6_1 p163 q163
       have hw163_1 := hx163_1
       have hw163_0 := hx163_0
       cases e163
       replace hx163_0 := (HB.out.cell (World.block_lt_of_cell? w _ hx163_0)).trans hx163_0
       replace hx163_1 := (HB.out.cell (World.block_lt_of_cell? w _ hx163_1)).trans hx163_1
       have HR163_0 := Aside0.mk hi163_0
       have HC163_0 := Aside0.mk hl163_0
       clear hi163_0 hl163_0
       have HR163_1 := Aside0.mk hi163_1
       have HC163_1 := Aside0.mk hl163_1
       clear hi163_1 hl163_1
       replace p163 := eq_true p163
       replace q163 := eq_true q163
       refine start_ (n := 10) (S := fun w' => w'.cell? ⟨gb162, 0, none⟩ = some (.slice Ao8 y159.length co8) ∧ w'.cell? ⟨gb162, 1, none⟩ = some (u163001) ∧ w'.cell? (ad163.add ((x6_1).toNat * 2)) = some (.slice A163_0 ((rd_T26 l0 x6_1).f0).length c163_0) ∧ w'.cell? ⟨(ad163.add ((x6_1).toNat * 2)).block, (ad163.add ((x6_1).toNat * 2)).off + 1, none⟩ = some (.slice A163_1 ((rd_T26 l0 x6_1).f1).length c163_1)) (ds := [9]) #[false, false, false, false, false, false, false, false, false, false] (by kernel_rfl) rfl rfl ⟨(blk_cell BK162.out 0).trans rfl, (blk_cell BK162.out 1).trans rfl, ((HB.out.cell (World.block_lt_of_cell? w _ hw163_0)).trans hw163_0), ((HB.out.cell (World.block_lt_of_cell? w _ hw163_1)).trans hw163_1)⟩ (fun hHeld => ?_); refine with_tabW spec_l5Rows.tab5 spec_l5Rows.bits5 (fun HT_ HW_ => ?_)
       generalize wr.drew = w15 at HO_163000 HO_163001 BK155 BK162 HB HR163_0 HR163_1 hx163_0 hx163_1 hHeld ⊢
       refine pure_ (i := 0) (N := some 19) (v := ?_) (a' := ?_) #[true, false, false, false, false, false, false, false, false, false] rfl rfl (any_of HT_.out (by kernel_rfl)) (fun _ _ _ h => h) (Or.inl ⟨by rfl, ?_⟩) ?_ ?_
       rotate_left
       ·
        intro w'
        go_simp
        with_reducible rfl
       rotate_left
       ·
        simp only [Act.put, List.setIfInBounds_toArray, List.set_cons_zero, List.set_cons_succ, i64_w, i32_w]
        rfl
       refine pure_ (i := 2) (N := some 21) (v := ?_) (a' := ?_) #[true, false, true, false, false, false, false, false, false, false] rfl rfl (any_of HT_.out (by kernel_rfl)) (fun _ _ _ h => h) (Or.inl ⟨by rfl, ?_⟩) ?_ ?_
       rotate_left
       ·
        intro w'
        go_simp
        with_reducible rfl
       rotate_left
       ·
        simp only [Act.put, List.setIfInBounds_toArray, List.set_cons_zero, List.set_cons_succ, i64_w, i32_w]
        rfl
       refine pure_ (i := 3) (N := some 22) (v := ?_) (a' := ?_) #[true, false, true, true, false, false, false, false, false, false] rfl rfl (any_of HT_.out (by kernel_rfl)) (fun _ _ _ h => h) (Or.inl ⟨by rfl, ?_⟩) ?_ ?_
       rotate_left
       ·
        intro w'
        go_simp
        with_reducible rfl
       rotate_left
       ·
        simp only [Act.put, List.setIfInBounds_toArray, List.set_cons_zero, List.set_cons_succ, i64_w, i32_w]
        rfl
       refine pure_ (i := 4) (N := some 23) (v := ?_) (a' := ?_) #[true, false, true, true, true, false, false, false, false, false] rfl rfl (any_of HT_.out (by kernel_rfl)) (fun _ _ _ h => h) (Or.inl ⟨by rfl, ?_⟩) ?_ ?_
       rotate_left
       ·
        intro w'
        go_simp
        with_reducible rfl
       rotate_left
       ·
        simp only [Act.put, List.setIfInBounds_toArray, List.set_cons_zero, List.set_cons_succ, i64_w, i32_w]
        rfl
       refine pure_ (i := 5) (N := some 24) (v := ?_) (a' := ?_) #[true, false, true, true, true, true, false, false, false, false] rfl rfl (any_of HT_.out (by kernel_rfl)) (fun _ _ _ h => h) (Or.inl ⟨by rfl, ?_⟩) ?_ ?_
       rotate_left
       ·
        intro w'
        go_simp
        with_reducible rfl
       rotate_left
       ·
        simp only [Act.put, List.setIfInBounds_toArray, List.set_cons_zero, List.set_cons_succ, i64_w, i32_w]
        rfl
       refine take_ (i := 1) (N := some 20) (v := ?_) (a' := ?_) #[true, true, true, true, true, true, false, false, false, false] rfl rfl (take_ofW HT_.out HW_.out (by kernel_rfl)) (fun _ _ _ h => h) (Or.inl ⟨by rfl, ?_⟩) hHeld ?_ ?_
       rotate_left
       ·
        rintro w' ⟨s0, s1, s2, s3⟩
        go_simp
        with_reducible rfl
       rotate_left
       ·
        simp only [Act.put, List.setIfInBounds_toArray, List.set_cons_zero, List.set_cons_succ, i64_w, i32_w]
        rfl
       refine take_ (i := 6) (N := some 25) (v := ?_) (a' := ?_) #[true, true, true, true, true, true, true, false, false, false] rfl rfl (take_ofW HT_.out HW_.out (by kernel_rfl)) (fun _ _ _ h => h) (Or.inl ⟨by rfl, ?_⟩) hHeld ?_ ?_
       rotate_left
       ·
        rintro w' ⟨s0, s1, s2, s3⟩
        go_simp
        with_reducible rfl
       rotate_left
       ·
        simp only [Act.put, List.setIfInBounds_toArray, List.set_cons_zero, List.set_cons_succ, i64_w, i32_w]
        rfl
       refine one_ (i := 7) (N := some 26) #[true, true, true, true, true, true, true, true, false, false] rfl rfl (one_of HT_.out (by kernel_rfl)) (by decide) (fun K hK => ?_)
       refine Kd.R_append_rows_step (Kd.int .i64) (w0 := w) w.heap.size (by rfl) (.tmp 20) (.tmp 25) 22 3 (.int .i64 0) 8 rfl Try.underlying22 info3 rfl (by decide) (by omega) u163001 x163001_1 ((rd_T26 l0 x6_1).f1) _ _ _ (fun k_ => some k_ ≠ (.slice Ao8 y159.length co8 : Value).ownBlock) (fun _ => False) rfl rfl ?aO ?aR (fun _ _ h => h) (fun _ h => h.elim) ?aF ?aB ?aS ?aL ?_
       (case aR => exact cU (Kd.C_below HR163_1.out HB.out))
       (case aB => exact (bS2 HB.out GE155.out GE162.out))
       (case aF => exact (fun k_ hk => Kd.fresh' (Kd.R_lt (RU HO_163000.out)) k_ hk))
       (case aO => exact (RU HO_163001.out))
       (case aS => exact (below_size (bS2 HB.out GE155.out GE162.out)))
       (case aL => have := LMc14.out; omega)
       intro v165 w16 ho hb hg hat
       rw [← Ny164.out] at ho
       have n0_ := Aside0.mk (Kd.R_after (ok := (fun _ => True)) (by (with_reducible repeat (first | apply Kd.R_alloc | apply Kd.R_drewN | apply Kd.R_drew)); exact Kd.R_mono HO_163000.out (fun _ hk => ⟨trivial, hk⟩)) hg hat)
       have n1_ := Aside0.mk (blk_grown (g := gb155) (o := .cells #[.slice none 0 0, .slice none 0 0] 26 (0, 0)) (kU BK155.out) hg (Kd.R_ne HO_163001.out BK155.out (by decide)))
       have n2_ := Aside0.mk (blk_grown (g := gb162) (o := .cells #[.slice Ao8 y159.length co8, u163001] 26 (0, 0)) (kU BK162.out) hg (Kd.R_ne HO_163001.out BK162.out (by decide)))
       have n3_ := Aside0.mk (hb)
       have n4_ := Aside0.mk (ho)
       clear HO_163000 BK155 BK162 HB HO_163001
       have HO_163000 := n0_
       have BK155 := n1_
       have BK162 := n2_
       have HB := n3_
       have HO166 := n4_
       clear n0_ n1_ n2_ n3_ n4_
       clear ho hb hg hat
       obtain ⟨Ao17, co17, eo17⟩ := Kd.R_slice HO166.out
       (first | subst eo17 | (injection eo17 with f1_ f2_ f3_; have f4_ := f1_.symm; have f5_ := f3_.symm; clear f1_ f2_ f3_; subst f4_; subst f5_))
       refine hK.out _ _ ⟨(blk_cell BK162.out 0).trans rfl, (blk_cell BK162.out 1).trans rfl, ((HB.out.cell (World.block_lt_of_cell? w _ hw163_0)).trans hw163_0), ((HB.out.cell (World.block_lt_of_cell? w _ hw163_1)).trans hw163_1)⟩ (fun hHeld => ?_)
       clear hK K
       refine norm_ (a' := ?_) ?_ ?_
       rotate_left
       ·
        show Act.put _ (some 26) _ = _
        simp only [Act.put, List.setIfInBounds_toArray, List.set_cons_zero, List.set_cons_succ, i64_w, i32_w]
        rfl
       refine pure_ (i := 8) (N := some 27) (v := ?_) (a' := ?_) #[true, true, true, true, true, true, true, true, true, false] rfl rfl (any_of HT_.out (by kernel_rfl)) (fun _ _ _ h => h) (Or.inl ⟨by rfl, ?_⟩) ?_ ?_
       rotate_left
       ·
        intro w'
        go_simp
        with_reducible rfl
       rotate_left
       ·
        simp only [Act.put, List.setIfInBounds_toArray, List.set_cons_zero, List.set_cons_succ, i64_w, i32_w]
        rfl
       refine last_ (i := 9) (N := none) #[true, true, true, true, true, true, true, true, true, true] rfl rfl (one_of HT_.out (by kernel_rfl)) (by decide) (fun K hK => ?_)
       have hs18 : w16.cell? ⟨gb162, 1, none⟩ = some (u163001) := (blk_cell BK162.out 1).trans rfl
       have hfs18 := blk_frozen BK162.out 1
       have hns18_0 := NB155_162.out
       have hms18_0 := NB162_155.out
       refine skip_ (w1 := ?_) (by rfl) rfl ?_ ?_
       rotate_left
       ·
        go_simp
        rfl
       refine hK.out _ _ ?_
       clear hK K
       refine done_ (done_of HT_.out (by kernel_rfl)) ?_
       try go_wp2
       go_roundg k1
       case measure => have := HK1.out; omega
       case rel => exact ⟨(wrap64 (x6_1 + 1)), (y164), (.slice Ao17 y164.length co17), (by first | rfl | (simp; done) | (simp [*]; done)), H', ⟨by have := HK1.out; omega⟩, ⟨by (with_reducible repeat (first | apply Kd.R_alloc | apply Kd.R_drewN | apply Kd.R_drew)); exact Kd.R_mono (Kd.R_far (p := ⟨gb162, 1, none⟩) (Kd.R_types HO_163000.out BK162.out (by decide)) (fun _ hk => hk.2) (.slice Ao17 y164.length co17)) (fun _ hk => hk.1.2)⟩, ⟨by (with_reducible repeat (first | apply Kd.R_alloc | apply Kd.R_drewN | apply Kd.R_drew)); exact Kd.R_mono (Kd.R_far (p := ⟨gb162, 1, none⟩) (Kd.R_types HO166.out BK162.out (by decide)) (fun _ hk => hk.2) (.slice Ao17 y164.length co17)) (fun _ hk => hk.1)⟩, ⟨by (with_reducible repeat (first | refine blk_drewN ?_ _ | refine blk_drew ?_ | refine blk_alloc ?_ _)); refine blk_far ?_ NB155_162.out _; (with_reducible repeat (first | refine blk_drewN ?_ _ | refine blk_drew ?_ | refine blk_alloc ?_ _)); exact BK155.out⟩, ⟨by (with_reducible repeat (first | refine blk_drewN ?_ _ | refine blk_drew ?_ | refine blk_alloc ?_ _)); refine blk_put (cs := #[.slice Ao8 y159.length co8, u163001]) ?_ 1 _ rfl; (with_reducible repeat (first | refine blk_drewN ?_ _ | refine blk_drew ?_ | refine blk_alloc ?_ _)); exact BK162.out⟩, ⟨by repeat (first | (with_reducible first | exact HB.out | apply below_alloc | apply pw_below_drewN | apply below_drew1 | refine below_set ?_ GE155.out | refine below_set ?_ GE162.out) | exact HB.out)⟩⟩
      ·
       rw [if_neg c14] at H
       exact absurd H (by simp)
     ·
      rw [if_neg c13] at H
      exact absurd H (by simp)
    ·
     rw [if_neg c12] at H
     have c12b0 : decide (x6_1 < (l0.length : Int)) = false := decide_eq_false c12
     clear c12
     simp only [Option.some.injEq, Prod.mk.injEq] at H
     obtain ⟨rfl, rfl⟩ := H
     have hnb19 := NB162_155.out
     have hnc19 := NB155_162.out
     have hcz20_0 : wr.cell? ⟨gb162, 0, none⟩ = some (.slice Ao8 y159.length co8) := (blk_cell BK162.out 0).trans rfl
     have hcz20_1 : wr.cell? ⟨gb162, 1, none⟩ = some (u163001) := (blk_cell BK162.out 1).trans rfl
     have hfz20_0 := blk_frozen BK162.out 0
     have hfz20_1 := blk_frozen BK162.out 1
     have hcz21_0 : wr.cell? ⟨gb155, 0, none⟩ = some (.slice none 0 0) := (blk_cell BK155.out 0).trans rfl
     have hcz21_1 : wr.cell? ⟨gb155, 1, none⟩ = some (.slice none 0 0) := (blk_cell BK155.out 1).trans rfl
     have hfz21_0 := blk_frozen BK155.out 0
     have hfz21_1 := blk_frozen BK155.out 1
     obtain ⟨Ao22, co22, eo22⟩ := Kd.R_slice HO_163001.out
     subst eo22
     go_wp2
     refine bodyPost_ret (results_cell_row rfl _ _ gb155 26 #[.slice Ao8 y159.length co8, .slice Ao22 x163001_1.length co22] (0, 0) _ rfl (by (with_reducible repeat (first | refine blk_drewN ?_ _ | refine blk_drew ?_ | refine blk_alloc ?_ _)); refine blk_put (cs := #[.slice Ao8 y159.length co8, .slice none 0 0]) ?_ 1 _ rfl; (with_reducible repeat (first | refine blk_drewN ?_ _ | refine blk_drew ?_ | refine blk_alloc ?_ _)); refine blk_put (cs := #[.slice none 0 0, .slice none 0 0]) ?_ 0 _ rfl; (with_reducible repeat (first | refine blk_drewN ?_ _ | refine blk_drew ?_ | refine blk_alloc ?_ _)); exact BK155.out) Try.underlying26 rfl (by kernel_rfl)) rfl ?_
     exact ⟨_, _, by first | rfl | (simp [errW_none, errW_some] <;> rfl) | (simp [*, errW_none, errW_some] <;> rfl), by (with_reducible repeat (first | apply Kd.R_alloc | apply Kd.R_drewN | apply Kd.R_drew)); exact Kd.R_mono (Kd.R_far (p := ⟨gb155, 1, none⟩) (Kd.R_far (p := ⟨gb155, 0, none⟩) (Kd.R_types HO_163000.out BK155.out (by decide)) (fun _ hk => hk.2) (.slice Ao8 y159.length co8)) (fun _ hk => hk.2) (.slice Ao22 x163001_1.length co22)) (fun _ hk => hk.1), by (with_reducible repeat (first | apply Kd.R_alloc | apply Kd.R_drewN | apply Kd.R_drew)); exact Kd.R_mono (Kd.R_far (p := ⟨gb155, 1, none⟩) (Kd.R_far (p := ⟨gb155, 0, none⟩) (Kd.R_types HO_163001.out BK155.out (by decide)) (fun _ hk => hk.2) (.slice Ao8 y159.length co8)) (fun _ hk => hk.2) (.slice Ao22 x163001_1.length co22)) (fun _ hk => hk.1), by repeat (first | (with_reducible first | exact HB.out | apply below_alloc | apply pw_below_drewN | apply below_drew1 | refine below_set ?_ GE155.out | refine below_set ?_ GE162.out) | exact HB.out)⟩
 ·
  rw [if_neg c3] at H
  exact absurd H (by simp)

/-! ### spec_Drop: function 9 -/
def spec_Drop.j0 : Nat → Bool → List Int → List Int → List Int → List Int → Option (List Int × List Int × Int)
 | 0, _, _, _, _, _ => none
 | k + 1, x10, x168000, x168001, x169000, x169001 => if x10 = true then (some (([] : List Int), ([] : List Int), 1)) else (if (x168001.length : Int) = 1 then (if 0 < (x168001.length : Int) then ((spec_l5Vector.f x169000 x169001).bind fun bt173 => ((spec_l1Max.f (rd x168001 0) (wrap64 (-(rd x168001 0)))).bind fun t180 => (if 0 < (bt173.1.length : Int) then ((spec_l1Min.f t180 (rd bt173.1 0)).bind fun t182 => ((spec_l3Rows.f k bt173.1 bt173.2).bind fun t183 => (if (rd x168001 0) ≥ 0 then (if 0 ≤ t182 then (if t182 ≤ (t183.length : Int) then (if 1 ≤ (bt173.1.length : Int) then ((spec_l5Rows.f k (t183.drop (t182 : Int).toNat) (bt173.1.drop 1)).bind fun bt194 => (some (bt194.1, bt194.2, 0))) else (none)) else (none)) else (none)) else (if 0 ≤ (wrap64 ((t183.length : Int) - t182)) then (if (wrap64 ((t183.length : Int) - t182)) ≤ (t183.length : Int) then (if 1 ≤ (bt173.1.length : Int) then ((spec_l5Rows.f k (t183.take ((wrap64 ((t183.length : Int) - t182)) : Int).toNat) (bt173.1.drop 1)).bind fun bt208 => (some (bt208.1, bt208.2, 0))) else (none)) else (none)) else (none))))) else (none)))) else (none)) else (some (([] : List Int), ([] : List Int), 3)))
def spec_Drop.f (k : Nat) (l0_0 : List Int) (l0_1 : List Int) (l1_0 : List Int) (l1_1 : List Int) : Option (List Int × List Int × Int) := (spec_ArrayOk.f k l0_0 l0_1).bind fun t170 => (if t170 = true then ((spec_ArrayOk.f k l1_0 l1_1).bind fun t171 => (spec_Drop.j0 k (!t171) l0_0 l0_1 l1_0 l1_1)) else (spec_Drop.j0 k true l0_0 l0_1 l1_0 l1_1))
theorem spec_Drop.mono_l : ∀ k, (∀ y0 y1 y2 y3 y4, LeO (spec_Drop.j0 k y0 y1 y2 y3 y4) (spec_Drop.j0 (k + 1) y0 y1 y2 y3 y4))
 | 0 => fun _ _ _ _ _ r h => by simp [spec_Drop.j0] at h
 | k + 1 => by
  have ih0 := spec_Drop.mono_l k
  ·
   intro y0 y1 y2 y3 y4
   unfold spec_Drop.j0
   repeat' first
   | (with_reducible exact ih0 _ _ _ _ _)
   | (with_reducible exact spec_ArrayOk.mono _ _ _)
   | (with_reducible exact spec_l3Rows.mono _ _ _)
   | (with_reducible exact spec_l5Rows.mono _ _ _)
   | (with_reducible exact LeO.refl _)
   | (with_reducible exact LeO.none _)
   | (with_reducible refine LeO.ite ?_ ?_)
   | (with_reducible refine LeO.bind ?_ (fun _ => ?_))
   | exact ih0 _ _ _ _ _
   | exact spec_ArrayOk.mono _ _ _
   | exact spec_l3Rows.mono _ _ _
   | exact spec_l5Rows.mono _ _ _
   | exact LeO.none _
   | refine LeO.ite ?_ ?_
   | refine LeO.bind ?_ (fun _ => ?_)
theorem spec_Drop.mono : ∀ a0 a1 a2 a3 k, LeO (spec_Drop.f k a0 a1 a2 a3) (spec_Drop.f (k + 1) a0 a1 a2 a3) := by
 intro a0 a1 a2 a3 k
 have ih0 := spec_Drop.mono_l k
 unfold spec_Drop.f
 repeat' first
   | (with_reducible exact ih0 _ _ _ _ _)
   | (with_reducible exact spec_ArrayOk.mono _ _ _)
   | (with_reducible exact spec_l3Rows.mono _ _ _)
   | (with_reducible exact spec_l5Rows.mono _ _ _)
   | (with_reducible exact LeO.refl _)
   | (with_reducible exact LeO.none _)
   | (with_reducible refine LeO.ite ?_ ?_)
   | (with_reducible refine LeO.bind ?_ (fun _ => ?_))
   | exact ih0 _ _ _ _ _
   | exact spec_ArrayOk.mono _ _ _
   | exact spec_l3Rows.mono _ _ _
   | exact spec_l5Rows.mono _ _ _
   | exact LeO.none _
   | refine LeO.ite ?_ ?_
   | refine LeO.bind ?_ (fun _ => ?_)
set_option maxHeartbeats 8000000 in
set_option maxRecDepth 100000 in
theorem spec_Drop.calls (k : Nat) (A0_0 : Option Addr) (c0_0 : Nat) (l0_0 : List Int) (A0_1 : Option Addr) (c0_1 : Nat) (l0_1 : List Int) (A1_0 : Option Addr) (c1_0 : Nat) (l1_0 : List Int) (A1_1 : Option Addr) (c1_1 : Nat) (l1_1 : List Int) (r1 : List Int) (r2 : List Int) (r3 : Int) (w : World) (hr0_0 : Kd.C (Kd.int .i64) w A0_0 l0_0.length l0_0) (hc0_0 : l0_0.length ≤ c0_0) (hr0_1 : Kd.C (Kd.int .i64) w A0_1 l0_1.length l0_1) (hc0_1 : l0_1.length ≤ c0_1) (hr1_0 : Kd.C (Kd.int .i64) w A1_0 l1_0.length l1_0) (hc1_0 : l1_0.length ≤ c1_0) (hr1_1 : Kd.C (Kd.int .i64) w A1_1 l1_1.length l1_1) (hc1_1 : l1_1.length ≤ c1_1) (h : spec_Drop.f k l0_0 l0_1 l1_0 l1_1 = some (r1, r2, r3)) :
  Calls Try.prog 9 #[.agg #[.slice A0_0 l0_0.length c0_0, .slice A0_1 l0_1.length c0_1], .agg #[.slice A1_0 l1_0.length c1_0, .slice A1_1 l1_1.length c1_1]] w fun e w' => ∃ v0_ v1_ : Value, e = .returned (.tuple #[.agg #[v0_, v1_], .int .i64 r3]) ∧ Kd.R (Kd.int .i64) 3 w' w.heap.size (fun k_ => some k_ ≠ (v1_ : Value).ownBlock) v0_ r1 ∧ Kd.R (Kd.int .i64) 3 w' w.heap.size (fun k_ => some k_ ≠ (v0_ : Value).ownBlock) v1_ r2 ∧ Below w.heap.size w w' := by
 have hu26 := Try.underlying26
 have HR0_0 := Aside0.mk hr0_0
 have HC0_0 := Aside0.mk hc0_0
 clear hr0_0 hc0_0
 have HR0_1 := Aside0.mk hr0_1
 have HC0_1 := Aside0.mk hc0_1
 clear hr0_1 hc0_1
 have HR1_0 := Aside0.mk hr1_0
 have HC1_0 := Aside0.mk hc1_0
 clear hr1_0 hc1_0
 have HR1_1 := Aside0.mk hr1_1
 have HC1_1 := Aside0.mk hc1_1
 clear hr1_1 hc1_1
 have HB := Aside0.mk (Below.refl w.heap.size w)
 have H : ((spec_ArrayOk.f k l0_0 l0_1).bind fun t170 => (if t170 = true then ((spec_ArrayOk.f k l1_0 l1_1).bind fun t171 => (spec_Drop.j0 k (!t171) l0_0 l0_1 l1_0 l1_1)) else (spec_Drop.j0 k true l0_0 l0_1 l1_0 l1_1))) = some (r1, r2, r3) := h
 clear h
 have HC3 := Aside0.mk H
 clear H
 go_enter Try.func9, Try.ntmps9
 go_upto_region 1 with (first | ((with_reducible refine gate_dst (N := 2) rfl ?_); refine box_event ?hg (N := 2) ?hd (cs := #[.slice A0_0 l0_0.length c0_0, .slice A0_1 l0_1.length c0_1]) (t := 26) ?hr ?_; (case hd => rfl); (case hg => rfl); (case hr => first | (go_simp; done) | (go_simp; rfl)); intro gb167 hg w4 hbox hb; have BK167 := Aside0.mk (hbox); have GW167 := Aside0.mk ((by rw [hg]; exact (below_size (bU HB.out)) : w.heap.size ≤ gb167)); have GE167 := Aside0.mk ((by rw [hg]; exact (below_size (bU HB.out)) : w.heap.size ≤ gb167)); replace HB := Aside0.mk (below_step (bU HB.out) hb); clear hb hbox hg) | ((with_reducible refine gate_dst (N := 3) rfl ?_); refine box_event ?hg (N := 3) ?hd (cs := #[.slice A1_0 l1_0.length c1_0, .slice A1_1 l1_1.length c1_1]) (t := 26) ?hr ?_; (case hd => rfl); (case hg => rfl); (case hr => first | (go_simp; done) | (go_simp; rfl)); intro gb168 hg w5 hbox hb; have BK168 := Aside0.mk (hbox); have GW168 := Aside0.mk ((by rw [hg]; exact (below_size (bS1 HB.out GE167.out)) : w.heap.size ≤ gb168)); have GE168 := Aside0.mk ((by rw [hg]; exact (below_size (bS1 HB.out GE167.out)) : w.heap.size ≤ gb168)); replace HB := Aside0.mk (below_step (bS1 HB.out GE167.out) hb); have NB167_168 := Aside0.mk ((by rw [hg]; exact Nat.ne_of_lt (blk_lt (g := gb167) (o := .cells #[.slice A0_0 l0_0.length c0_0, .slice A0_1 l0_1.length c0_1] 26 (0, 0)) (kU BK167.out)) : gb167 ≠ gb168)); have NB168_167 := Aside0.mk ((by rw [hg]; exact Nat.ne_of_gt (blk_lt (g := gb167) (o := .cells #[.slice A0_0 l0_0.length c0_0, .slice A0_1 l0_1.length c0_1] 26 (0, 0)) (kU BK167.out)) : gb168 ≠ gb167)); replace BK167 := Aside0.mk (blk_below (g := gb167) (o := .cells #[.slice A0_0 l0_0.length c0_0, .slice A0_1 l0_1.length c0_1] 26 (0, 0)) (kU BK167.out) hb); clear hb hbox hg) | ((with_reducible refine gate_dst (N := 4) rfl ?_); refine box_event ?hg (N := 4) ?hd (cs := #[.slice none 0 0, .slice none 0 0]) (t := 26) ?hr ?_; (case hd => rfl); (case hg => rfl); (case hr => first | (go_simp; done) | (go_simp; rfl)); intro gb169 hg w6 hbox hb; have BK169 := Aside0.mk (hbox); have GW169 := Aside0.mk ((by rw [hg]; exact (below_size (bS2 HB.out GE167.out GE168.out)) : w.heap.size ≤ gb169)); have GE169 := Aside0.mk ((by rw [hg]; exact (below_size (bS2 HB.out GE167.out GE168.out)) : w.heap.size ≤ gb169)); replace HB := Aside0.mk (below_step (bS2 HB.out GE167.out GE168.out) hb); have NB167_169 := Aside0.mk ((by rw [hg]; exact Nat.ne_of_lt (blk_lt (g := gb167) (o := .cells #[.slice A0_0 l0_0.length c0_0, .slice A0_1 l0_1.length c0_1] 26 (0, 0)) (kU BK167.out)) : gb167 ≠ gb169)); have NB169_167 := Aside0.mk ((by rw [hg]; exact Nat.ne_of_gt (blk_lt (g := gb167) (o := .cells #[.slice A0_0 l0_0.length c0_0, .slice A0_1 l0_1.length c0_1] 26 (0, 0)) (kU BK167.out)) : gb169 ≠ gb167)); replace BK167 := Aside0.mk (blk_below (g := gb167) (o := .cells #[.slice A0_0 l0_0.length c0_0, .slice A0_1 l0_1.length c0_1] 26 (0, 0)) (kU BK167.out) hb); have NB168_169 := Aside0.mk ((by rw [hg]; exact Nat.ne_of_lt (blk_lt (g := gb168) (o := .cells #[.slice A1_0 l1_0.length c1_0, .slice A1_1 l1_1.length c1_1] 26 (0, 0)) (kU BK168.out)) : gb168 ≠ gb169)); have NB169_168 := Aside0.mk ((by rw [hg]; exact Nat.ne_of_gt (blk_lt (g := gb168) (o := .cells #[.slice A1_0 l1_0.length c1_0, .slice A1_1 l1_1.length c1_1] 26 (0, 0)) (kU BK168.out)) : gb169 ≠ gb168)); replace BK168 := Aside0.mk (blk_below (g := gb168) (o := .cells #[.slice A1_0 l1_0.length c1_0, .slice A1_1 l1_1.length c1_1] 26 (0, 0)) (kU BK168.out) hb); clear hb hbox hg))
 repeat (go_quiet (fail); go_upto_region 1 with (first | ((with_reducible refine gate_dst (N := 2) rfl ?_); refine box_event ?hg (N := 2) ?hd (cs := #[.slice A0_0 l0_0.length c0_0, .slice A0_1 l0_1.length c0_1]) (t := 26) ?hr ?_; (case hd => rfl); (case hg => rfl); (case hr => first | (go_simp; done) | (go_simp; rfl)); intro gb167 hg w4 hbox hb; have BK167 := Aside0.mk (hbox); have GW167 := Aside0.mk ((by rw [hg]; exact (below_size (bU HB.out)) : w.heap.size ≤ gb167)); have GE167 := Aside0.mk ((by rw [hg]; exact (below_size (bU HB.out)) : w.heap.size ≤ gb167)); replace HB := Aside0.mk (below_step (bU HB.out) hb); clear hb hbox hg) | ((with_reducible refine gate_dst (N := 3) rfl ?_); refine box_event ?hg (N := 3) ?hd (cs := #[.slice A1_0 l1_0.length c1_0, .slice A1_1 l1_1.length c1_1]) (t := 26) ?hr ?_; (case hd => rfl); (case hg => rfl); (case hr => first | (go_simp; done) | (go_simp; rfl)); intro gb168 hg w5 hbox hb; have BK168 := Aside0.mk (hbox); have GW168 := Aside0.mk ((by rw [hg]; exact (below_size (bS1 HB.out GE167.out)) : w.heap.size ≤ gb168)); have GE168 := Aside0.mk ((by rw [hg]; exact (below_size (bS1 HB.out GE167.out)) : w.heap.size ≤ gb168)); replace HB := Aside0.mk (below_step (bS1 HB.out GE167.out) hb); have NB167_168 := Aside0.mk ((by rw [hg]; exact Nat.ne_of_lt (blk_lt (g := gb167) (o := .cells #[.slice A0_0 l0_0.length c0_0, .slice A0_1 l0_1.length c0_1] 26 (0, 0)) (kU BK167.out)) : gb167 ≠ gb168)); have NB168_167 := Aside0.mk ((by rw [hg]; exact Nat.ne_of_gt (blk_lt (g := gb167) (o := .cells #[.slice A0_0 l0_0.length c0_0, .slice A0_1 l0_1.length c0_1] 26 (0, 0)) (kU BK167.out)) : gb168 ≠ gb167)); replace BK167 := Aside0.mk (blk_below (g := gb167) (o := .cells #[.slice A0_0 l0_0.length c0_0, .slice A0_1 l0_1.length c0_1] 26 (0, 0)) (kU BK167.out) hb); clear hb hbox hg) | ((with_reducible refine gate_dst (N := 4) rfl ?_); refine box_event ?hg (N := 4) ?hd (cs := #[.slice none 0 0, .slice none 0 0]) (t := 26) ?hr ?_; (case hd => rfl); (case hg => rfl); (case hr => first | (go_simp; done) | (go_simp; rfl)); intro gb169 hg w6 hbox hb; have BK169 := Aside0.mk (hbox); have GW169 := Aside0.mk ((by rw [hg]; exact (below_size (bS2 HB.out GE167.out GE168.out)) : w.heap.size ≤ gb169)); have GE169 := Aside0.mk ((by rw [hg]; exact (below_size (bS2 HB.out GE167.out GE168.out)) : w.heap.size ≤ gb169)); replace HB := Aside0.mk (below_step (bS2 HB.out GE167.out GE168.out) hb); have NB167_169 := Aside0.mk ((by rw [hg]; exact Nat.ne_of_lt (blk_lt (g := gb167) (o := .cells #[.slice A0_0 l0_0.length c0_0, .slice A0_1 l0_1.length c0_1] 26 (0, 0)) (kU BK167.out)) : gb167 ≠ gb169)); have NB169_167 := Aside0.mk ((by rw [hg]; exact Nat.ne_of_gt (blk_lt (g := gb167) (o := .cells #[.slice A0_0 l0_0.length c0_0, .slice A0_1 l0_1.length c0_1] 26 (0, 0)) (kU BK167.out)) : gb169 ≠ gb167)); replace BK167 := Aside0.mk (blk_below (g := gb167) (o := .cells #[.slice A0_0 l0_0.length c0_0, .slice A0_1 l0_1.length c0_1] 26 (0, 0)) (kU BK167.out) hb); have NB168_169 := Aside0.mk ((by rw [hg]; exact Nat.ne_of_lt (blk_lt (g := gb168) (o := .cells #[.slice A1_0 l1_0.length c1_0, .slice A1_1 l1_1.length c1_1] 26 (0, 0)) (kU BK168.out)) : gb168 ≠ gb169)); have NB169_168 := Aside0.mk ((by rw [hg]; exact Nat.ne_of_gt (blk_lt (g := gb168) (o := .cells #[.slice A1_0 l1_0.length c1_0, .slice A1_1 l1_1.length c1_1] 26 (0, 0)) (kU BK168.out)) : gb169 ≠ gb168)); replace BK168 := Aside0.mk (blk_below (g := gb168) (o := .cells #[.slice A1_0 l1_0.length c1_0, .slice A1_1 l1_1.length c1_1] 26 (0, 0)) (kU BK168.out) hb); clear hb hbox hg)))
 (try simp only [Act.put, List.setIfInBounds_toArray, List.set_cons_zero, List.set_cons_succ])
 go_cut [10] (fun v10 wc => ∃ (kq : Nat) (x10_2 : Bool), v10 = .bool x10_2 ∧ Aside0 (spec_Drop.j0 kq x10_2 l0_0 l0_1 l1_0 l1_1 = some (r1, r2, r3)) ∧ Aside0 (kq ≤ k) ∧ Aside0 (wc.heap[gb167]? = some (.cells #[(.slice A0_0 l0_0.length c0_0), (.slice A0_1 l0_1.length c0_1)] 26 (0, 0))) ∧ Aside0 (wc.heap[gb168]? = some (.cells #[(.slice A1_0 l1_0.length c1_0), (.slice A1_1 l1_1.length c1_1)] 26 (0, 0))) ∧ Aside0 (wc.heap[gb169]? = some (.cells #[(.slice none 0 0), (.slice none 0 0)] 26 (0, 0))) ∧ Aside0 (Below w.heap.size w wc))
 case first =>
  have H := HC3.out
  clear HC3
  replace H := Option.bind_eq_some_iff.mp H
  obtain ⟨t170, A70, H⟩ := H
  replace H : (if t170 = true then ((spec_ArrayOk.f k l1_0 l1_1).bind fun t171 => (spec_Drop.j0 k (!t171) l0_0 l0_1 l1_0 l1_1)) else (spec_Drop.j0 k true l0_0 l0_1 l1_0 l1_1)) = some (r1, r2, r3) := H
  have A7 := Aside0.mk A70
  clear A70
  by_cases c8 : t170 = true
  ·
   subst c8
   have H1 : ((spec_ArrayOk.f k l1_0 l1_1).bind fun t171 => (spec_Drop.j0 k (!t171) l0_0 l0_1 l1_0 l1_1)) = some (r1, r2, r3) := by rw [if_pos rfl] at H; exact H
   clear H
   have H := H1
   clear H1
   replace H := Option.bind_eq_some_iff.mp H
   obtain ⟨t171, A90, H⟩ := H
   replace H : (spec_Drop.j0 k (!t171) l0_0 l0_1 l1_0 l1_1) = some (r1, r2, r3) := H
   have A9 := Aside0.mk A90
   clear A90
   have H' := Aside0.mk H
   clear H
   have hnb10 := NB167_168.out
   have hnc10 := NB168_167.out
   have hnb11 := NB167_169.out
   have hnc11 := NB169_167.out
   have hcz12_0 : w6.cell? ⟨gb167, 0, none⟩ = some (.slice A0_0 l0_0.length c0_0) := (blk_cell BK167.out 0).trans rfl
   have hcz12_1 : w6.cell? ⟨gb167, 1, none⟩ = some (.slice A0_1 l0_1.length c0_1) := (blk_cell BK167.out 1).trans rfl
   have hfz12_0 := blk_frozen BK167.out 0
   have hfz12_1 := blk_frozen BK167.out 1
   go_wp2_with (first | (go_at_call 22; (repeat rw [i64_w]); (with_reducible refine (spec_ArrayOk.calls k _ _ l0_0 _ _ l0_1 true _ ?side1 ?side2 ?side3 ?side4 A7.out).mono ?_); (case side1 => exact cU (Kd.C_below HR0_0.out HB.out)); (case side2 => exact HC0_0.out); (case side3 => exact cU (Kd.C_below HR0_1.out HB.out)); (case side4 => exact HC0_1.out); rintro e w13 ⟨rfl, hb⟩; replace BK167 := Aside0.mk (blk_below (g := gb167) (o := .cells #[.slice A0_0 l0_0.length c0_0, .slice A0_1 l0_1.length c0_1] 26 (0, 0)) (kU BK167.out) hb); replace BK168 := Aside0.mk (blk_below (g := gb168) (o := .cells #[.slice A1_0 l1_0.length c1_0, .slice A1_1 l1_1.length c1_1] 26 (0, 0)) (kU BK168.out) hb); replace BK169 := Aside0.mk (blk_below (g := gb169) (o := .cells #[.slice none 0 0, .slice none 0 0] 26 (0, 0)) (kU BK169.out) hb); replace HB := Aside0.mk (below_step (bS3 HB.out GE167.out GE168.out GE169.out) hb); (try clear hb); (try clear hb2); (try clear hk); (try clear hi); have hnb14 := NB168_169.out; have hnc14 := NB169_168.out; have hcz15_0 : w13.cell? ⟨gb168, 0, none⟩ = some (.slice A1_0 l1_0.length c1_0) := (blk_cell BK168.out 0).trans rfl; have hcz15_1 : w13.cell? ⟨gb168, 1, none⟩ = some (.slice A1_1 l1_1.length c1_1) := (blk_cell BK168.out 1).trans rfl; have hfz15_0 := blk_frozen BK168.out 0; have hfz15_1 := blk_frozen BK168.out 1) | (go_at_call 22; (repeat rw [i64_w]); (with_reducible refine (spec_ArrayOk.calls k _ _ l1_0 _ _ l1_1 t171 _ ?side1 ?side2 ?side3 ?side4 A9.out).mono ?_); (case side1 => exact cU (Kd.C_below HR1_0.out HB.out)); (case side2 => exact HC1_0.out); (case side3 => exact cU (Kd.C_below HR1_1.out HB.out)); (case side4 => exact HC1_1.out); rintro e w16 ⟨rfl, hb⟩; replace BK167 := Aside0.mk (blk_below (g := gb167) (o := .cells #[.slice A0_0 l0_0.length c0_0, .slice A0_1 l0_1.length c0_1] 26 (0, 0)) (kU BK167.out) hb); replace BK168 := Aside0.mk (blk_below (g := gb168) (o := .cells #[.slice A1_0 l1_0.length c1_0, .slice A1_1 l1_1.length c1_1] 26 (0, 0)) (kU BK168.out) hb); replace BK169 := Aside0.mk (blk_below (g := gb169) (o := .cells #[.slice none 0 0, .slice none 0 0] 26 (0, 0)) (kU BK169.out) hb); replace HB := Aside0.mk (below_step (bS3 HB.out GE167.out GE168.out GE169.out) hb); (try clear hb); (try clear hb2); (try clear hk); (try clear hi)))
   repeat (go_quiet (fail); try go_wp2_with (first | (go_at_call 22; (repeat rw [i64_w]); (with_reducible refine (spec_ArrayOk.calls k _ _ l0_0 _ _ l0_1 true _ ?side1 ?side2 ?side3 ?side4 A7.out).mono ?_); (case side1 => exact cU (Kd.C_below HR0_0.out HB.out)); (case side2 => exact HC0_0.out); (case side3 => exact cU (Kd.C_below HR0_1.out HB.out)); (case side4 => exact HC0_1.out); rintro e w13 ⟨rfl, hb⟩; replace BK167 := Aside0.mk (blk_below (g := gb167) (o := .cells #[.slice A0_0 l0_0.length c0_0, .slice A0_1 l0_1.length c0_1] 26 (0, 0)) (kU BK167.out) hb); replace BK168 := Aside0.mk (blk_below (g := gb168) (o := .cells #[.slice A1_0 l1_0.length c1_0, .slice A1_1 l1_1.length c1_1] 26 (0, 0)) (kU BK168.out) hb); replace BK169 := Aside0.mk (blk_below (g := gb169) (o := .cells #[.slice none 0 0, .slice none 0 0] 26 (0, 0)) (kU BK169.out) hb); replace HB := Aside0.mk (below_step (bS3 HB.out GE167.out GE168.out GE169.out) hb); (try clear hb); (try clear hb2); (try clear hk); (try clear hi); have hnb14 := NB168_169.out; have hnc14 := NB169_168.out; have hcz15_0 : w13.cell? ⟨gb168, 0, none⟩ = some (.slice A1_0 l1_0.length c1_0) := (blk_cell BK168.out 0).trans rfl; have hcz15_1 : w13.cell? ⟨gb168, 1, none⟩ = some (.slice A1_1 l1_1.length c1_1) := (blk_cell BK168.out 1).trans rfl; have hfz15_0 := blk_frozen BK168.out 0; have hfz15_1 := blk_frozen BK168.out 1) | (go_at_call 22; (repeat rw [i64_w]); (with_reducible refine (spec_ArrayOk.calls k _ _ l1_0 _ _ l1_1 t171 _ ?side1 ?side2 ?side3 ?side4 A9.out).mono ?_); (case side1 => exact cU (Kd.C_below HR1_0.out HB.out)); (case side2 => exact HC1_0.out); (case side3 => exact cU (Kd.C_below HR1_1.out HB.out)); (case side4 => exact HC1_1.out); rintro e w16 ⟨rfl, hb⟩; replace BK167 := Aside0.mk (blk_below (g := gb167) (o := .cells #[.slice A0_0 l0_0.length c0_0, .slice A0_1 l0_1.length c0_1] 26 (0, 0)) (kU BK167.out) hb); replace BK168 := Aside0.mk (blk_below (g := gb168) (o := .cells #[.slice A1_0 l1_0.length c1_0, .slice A1_1 l1_1.length c1_1] 26 (0, 0)) (kU BK168.out) hb); replace BK169 := Aside0.mk (blk_below (g := gb169) (o := .cells #[.slice none 0 0, .slice none 0 0] 26 (0, 0)) (kU BK169.out) hb); replace HB := Aside0.mk (below_step (bS3 HB.out GE167.out GE168.out GE169.out) hb); (try clear hb); (try clear hb2); (try clear hk); (try clear hi))))
   go_meet
   case rel => exact ⟨_, (!t171), (by first | rfl | (simp; done) | (simp [*]; done)), H', ⟨by first | omega | exact Nat.le_refl _⟩, ⟨by (with_reducible repeat (first | refine blk_drewN ?_ _ | refine blk_drew ?_ | refine blk_alloc ?_ _)); exact BK167.out⟩, ⟨by (with_reducible repeat (first | refine blk_drewN ?_ _ | refine blk_drew ?_ | refine blk_alloc ?_ _)); exact BK168.out⟩, ⟨by (with_reducible repeat (first | refine blk_drewN ?_ _ | refine blk_drew ?_ | refine blk_alloc ?_ _)); exact BK169.out⟩, ⟨by repeat (first | (with_reducible first | exact HB.out | apply below_alloc | apply pw_below_drewN | apply below_drew1 | refine below_set ?_ GE167.out | refine below_set ?_ GE168.out | refine below_set ?_ GE169.out) | exact HB.out)⟩⟩
  ·
   replace c8 := Bool.eq_false_iff.mpr c8
   subst c8
   have H1 : (spec_Drop.j0 k true l0_0 l0_1 l1_0 l1_1) = some (r1, r2, r3) := by rw [if_neg (show ¬ (false = true) by decide)] at H; exact H
   clear H
   have H := H1
   clear H1
   have H' := Aside0.mk H
   clear H
   have hnb17 := NB167_168.out
   have hnc17 := NB168_167.out
   have hnb18 := NB167_169.out
   have hnc18 := NB169_167.out
   have hcz19_0 : w6.cell? ⟨gb167, 0, none⟩ = some (.slice A0_0 l0_0.length c0_0) := (blk_cell BK167.out 0).trans rfl
   have hcz19_1 : w6.cell? ⟨gb167, 1, none⟩ = some (.slice A0_1 l0_1.length c0_1) := (blk_cell BK167.out 1).trans rfl
   have hfz19_0 := blk_frozen BK167.out 0
   have hfz19_1 := blk_frozen BK167.out 1
   go_wp2_with (first | (go_at_call 22; (repeat rw [i64_w]); (with_reducible refine (spec_ArrayOk.calls k _ _ l0_0 _ _ l0_1 false _ ?side1 ?side2 ?side3 ?side4 A7.out).mono ?_); (case side1 => exact cU (Kd.C_below HR0_0.out HB.out)); (case side2 => exact HC0_0.out); (case side3 => exact cU (Kd.C_below HR0_1.out HB.out)); (case side4 => exact HC0_1.out); rintro e w20 ⟨rfl, hb⟩; replace BK167 := Aside0.mk (blk_below (g := gb167) (o := .cells #[.slice A0_0 l0_0.length c0_0, .slice A0_1 l0_1.length c0_1] 26 (0, 0)) (kU BK167.out) hb); replace BK168 := Aside0.mk (blk_below (g := gb168) (o := .cells #[.slice A1_0 l1_0.length c1_0, .slice A1_1 l1_1.length c1_1] 26 (0, 0)) (kU BK168.out) hb); replace BK169 := Aside0.mk (blk_below (g := gb169) (o := .cells #[.slice none 0 0, .slice none 0 0] 26 (0, 0)) (kU BK169.out) hb); replace HB := Aside0.mk (below_step (bS3 HB.out GE167.out GE168.out GE169.out) hb); (try clear hb); (try clear hb2); (try clear hk); (try clear hi)))
   repeat (go_quiet (fail); try go_wp2_with (first | (go_at_call 22; (repeat rw [i64_w]); (with_reducible refine (spec_ArrayOk.calls k _ _ l0_0 _ _ l0_1 false _ ?side1 ?side2 ?side3 ?side4 A7.out).mono ?_); (case side1 => exact cU (Kd.C_below HR0_0.out HB.out)); (case side2 => exact HC0_0.out); (case side3 => exact cU (Kd.C_below HR0_1.out HB.out)); (case side4 => exact HC0_1.out); rintro e w20 ⟨rfl, hb⟩; replace BK167 := Aside0.mk (blk_below (g := gb167) (o := .cells #[.slice A0_0 l0_0.length c0_0, .slice A0_1 l0_1.length c0_1] 26 (0, 0)) (kU BK167.out) hb); replace BK168 := Aside0.mk (blk_below (g := gb168) (o := .cells #[.slice A1_0 l1_0.length c1_0, .slice A1_1 l1_1.length c1_1] 26 (0, 0)) (kU BK168.out) hb); replace BK169 := Aside0.mk (blk_below (g := gb169) (o := .cells #[.slice none 0 0, .slice none 0 0] 26 (0, 0)) (kU BK169.out) hb); replace HB := Aside0.mk (below_step (bS3 HB.out GE167.out GE168.out GE169.out) hb); (try clear hb); (try clear hb2); (try clear hk); (try clear hi))))
   go_meet
   case rel => exact ⟨_, (true), (by first | rfl | (simp; done) | (simp [*]; done)), H', ⟨by first | omega | exact Nat.le_refl _⟩, ⟨by (with_reducible repeat (first | refine blk_drewN ?_ _ | refine blk_drew ?_ | refine blk_alloc ?_ _)); exact BK167.out⟩, ⟨by (with_reducible repeat (first | refine blk_drewN ?_ _ | refine blk_drew ?_ | refine blk_alloc ?_ _)); exact BK168.out⟩, ⟨by (with_reducible repeat (first | refine blk_drewN ?_ _ | refine blk_drew ?_ | refine blk_alloc ?_ _)); exact BK169.out⟩, ⟨by repeat (first | (with_reducible first | exact HB.out | apply below_alloc | apply pw_below_drewN | apply below_drew1 | refine below_set ?_ GE167.out | refine below_set ?_ GE168.out | refine below_set ?_ GE169.out) | exact HB.out)⟩⟩
 case rest =>
  clear HC3
  try clear c1
  try clear p2
  try clear c8
  try clear c9
  try clear c10
  try clear c11
  try clear c14
  try clear c17
  try clear c18
  try clear hcz12_0
  try clear hcz12_1
  try clear hcz15_0
  try clear hcz15_1
  try clear hcz19_0
  try clear hcz19_1
  try clear hfz12_0
  try clear hfz12_1
  try clear hfz15_0
  try clear hfz15_1
  try clear hfz19_0
  try clear hfz19_1
  obtain ⟨kq, x10_2, rfl, HA, HJ2, BK167, BK168, BK169, HB⟩ := hcut
  cases kq with
  | zero => exact absurd HA.out (by simp [spec_Drop.j0])
  | succ kj2 =>
   have H := HA.out
   clear HA
   simp only [spec_Drop.j0] at H
   by_cases c21 : x10_2 = true
   ·
    subst c21
    have H1 : (some (([] : List Int), ([] : List Int), 1)) = some (r1, r2, r3) := by rw [if_pos rfl] at H; exact H
    clear H
    have H := H1
    clear H1
    simp only [Option.some.injEq, Prod.mk.injEq] at H
    obtain ⟨rfl, rfl, rfl⟩ := H
    have hnb22 := NB169_167.out
    have hnc22 := NB167_169.out
    have hnb23 := NB169_168.out
    have hnc23 := NB168_169.out
    have hcz24_0 : wc.cell? ⟨gb169, 0, none⟩ = some (.slice none 0 0) := (blk_cell BK169.out 0).trans rfl
    have hcz24_1 : wc.cell? ⟨gb169, 1, none⟩ = some (.slice none 0 0) := (blk_cell BK169.out 1).trans rfl
    have hfz24_0 := blk_frozen BK169.out 0
    have hfz24_1 := blk_frozen BK169.out 1
    go_wp2
    repeat (go_quiet (fail); try go_wp2)
    refine bodyPost_ret (results_ct rfl _ _ gb169 26 #[.slice none 0 0, .slice none 0 0] (0, 0) _ rfl (by (with_reducible repeat (first | refine blk_drewN ?_ _ | refine blk_drew ?_ | refine blk_alloc ?_ _)); refine blk_put (cs := #[.slice none 0 0, .slice none 0 0]) ?_ 1 _ rfl; (with_reducible repeat (first | refine blk_drewN ?_ _ | refine blk_drew ?_ | refine blk_alloc ?_ _)); refine blk_put (cs := #[.slice none 0 0, .slice none 0 0]) ?_ 0 _ rfl; (with_reducible repeat (first | refine blk_drewN ?_ _ | refine blk_drew ?_ | refine blk_alloc ?_ _)); exact BK169.out) Try.underlying26 rfl (by kernel_rfl)) rfl ?_
    exact ⟨_, _, by first | rfl | (simp [errW_none, errW_some] <;> rfl) | (simp [*, errW_none, errW_some] <;> rfl), by first | exact Kd.R_nil _ _ _ _ _ | exact Kd.N_nil _ _ _ _ _ | exact Kd.V_nil _ _ _ _ _ | exact Kd.Q_nil _ _ _ _ _ | exact Kd.S_nil _ _ _ _ _, by first | exact Kd.R_nil _ _ _ _ _ | exact Kd.N_nil _ _ _ _ _ | exact Kd.V_nil _ _ _ _ _ | exact Kd.Q_nil _ _ _ _ _ | exact Kd.S_nil _ _ _ _ _, by repeat (first | (with_reducible first | exact HB.out | apply below_alloc | apply pw_below_drewN | apply below_drew1 | refine below_set ?_ GE167.out | refine below_set ?_ GE168.out | refine below_set ?_ GE169.out) | exact HB.out)⟩
   ·
    replace c21 := Bool.eq_false_iff.mpr c21
    subst c21
    have H1 : (if (l0_1.length : Int) = 1 then (if 0 < (l0_1.length : Int) then ((spec_l5Vector.f l1_0 l1_1).bind fun bt173 => ((spec_l1Max.f (rd l0_1 0) (wrap64 (-(rd l0_1 0)))).bind fun t180 => (if 0 < (bt173.1.length : Int) then ((spec_l1Min.f t180 (rd bt173.1 0)).bind fun t182 => ((spec_l3Rows.f kj2 bt173.1 bt173.2).bind fun t183 => (if (rd l0_1 0) ≥ 0 then (if 0 ≤ t182 then (if t182 ≤ (t183.length : Int) then (if 1 ≤ (bt173.1.length : Int) then ((spec_l5Rows.f kj2 (t183.drop (t182 : Int).toNat) (bt173.1.drop 1)).bind fun bt194 => (some (bt194.1, bt194.2, 0))) else (none)) else (none)) else (none)) else (if 0 ≤ (wrap64 ((t183.length : Int) - t182)) then (if (wrap64 ((t183.length : Int) - t182)) ≤ (t183.length : Int) then (if 1 ≤ (bt173.1.length : Int) then ((spec_l5Rows.f kj2 (t183.take ((wrap64 ((t183.length : Int) - t182)) : Int).toNat) (bt173.1.drop 1)).bind fun bt208 => (some (bt208.1, bt208.2, 0))) else (none)) else (none)) else (none))))) else (none)))) else (none)) else (some (([] : List Int), ([] : List Int), 3))) = some (r1, r2, r3) := by rw [if_neg (show ¬ (false = true) by decide)] at H; exact H
    clear H
    have H := H1
    clear H1
    by_cases c25 : (l0_1.length : Int) = 1
    ·
     rw [if_pos c25] at H
     have c25b0 : ((l0_1.length : Int) == 1) = true := beq_iff_eq.mpr c25
     have c25b1 : ((l0_1.length : Int) != 1) = false := bne_eq_false_iff_eq.mpr c25
     clear c25
     by_cases c26 : 0 < (l0_1.length : Int)
     ·
      rw [if_pos c26] at H
      have c26b0 : decide (0 < (l0_1.length : Int)) = true := decide_eq_true c26
      have c26b1 : decide (0 < l0_1.length) = true := decide_eq_true (by omega)
      clear c26
      replace H := Option.bind_eq_some_iff.mp H
      obtain ⟨⟨t173, t176⟩, A270, H⟩ := H
      replace H : ((spec_l1Max.f (rd l0_1 0) (wrap64 (-(rd l0_1 0)))).bind fun t180 => (if 0 < (t173.length : Int) then ((spec_l1Min.f t180 (rd t173 0)).bind fun t182 => ((spec_l3Rows.f kj2 t173 t176).bind fun t183 => (if (rd l0_1 0) ≥ 0 then (if 0 ≤ t182 then (if t182 ≤ (t183.length : Int) then (if 1 ≤ (t173.length : Int) then ((spec_l5Rows.f kj2 (t183.drop (t182 : Int).toNat) (t173.drop 1)).bind fun bt194 => (some (bt194.1, bt194.2, 0))) else (none)) else (none)) else (none)) else (if 0 ≤ (wrap64 ((t183.length : Int) - t182)) then (if (wrap64 ((t183.length : Int) - t182)) ≤ (t183.length : Int) then (if 1 ≤ (t173.length : Int) then ((spec_l5Rows.f kj2 (t183.take ((wrap64 ((t183.length : Int) - t182)) : Int).toNat) (t173.drop 1)).bind fun bt208 => (some (bt208.1, bt208.2, 0))) else (none)) else (none)) else (none))))) else (none))) = some (r1, r2, r3) := H
      have A27 := Aside0.mk A270
      clear A270
      replace H := Option.bind_eq_some_iff.mp H
      obtain ⟨t180, A280, H⟩ := H
      replace H : (if 0 < (t173.length : Int) then ((spec_l1Min.f t180 (rd t173 0)).bind fun t182 => ((spec_l3Rows.f kj2 t173 t176).bind fun t183 => (if (rd l0_1 0) ≥ 0 then (if 0 ≤ t182 then (if t182 ≤ (t183.length : Int) then (if 1 ≤ (t173.length : Int) then ((spec_l5Rows.f kj2 (t183.drop (t182 : Int).toNat) (t173.drop 1)).bind fun bt194 => (some (bt194.1, bt194.2, 0))) else (none)) else (none)) else (none)) else (if 0 ≤ (wrap64 ((t183.length : Int) - t182)) then (if (wrap64 ((t183.length : Int) - t182)) ≤ (t183.length : Int) then (if 1 ≤ (t173.length : Int) then ((spec_l5Rows.f kj2 (t183.take ((wrap64 ((t183.length : Int) - t182)) : Int).toNat) (t173.drop 1)).bind fun bt208 => (some (bt208.1, bt208.2, 0))) else (none)) else (none)) else (none))))) else (none)) = some (r1, r2, r3) := H
      have A28 := Aside0.mk A280
      clear A280
      by_cases c29 : 0 < (t173.length : Int)
      ·
       rw [if_pos c29] at H
       have c29b0 : decide (0 < (t173.length : Int)) = true := decide_eq_true c29
       have c29b1 : decide (0 < t173.length) = true := decide_eq_true (by omega)
       clear c29
       replace H := Option.bind_eq_some_iff.mp H
       obtain ⟨t182, A300, H⟩ := H
       replace H : ((spec_l3Rows.f kj2 t173 t176).bind fun t183 => (if (rd l0_1 0) ≥ 0 then (if 0 ≤ t182 then (if t182 ≤ (t183.length : Int) then (if 1 ≤ (t173.length : Int) then ((spec_l5Rows.f kj2 (t183.drop (t182 : Int).toNat) (t173.drop 1)).bind fun bt194 => (some (bt194.1, bt194.2, 0))) else (none)) else (none)) else (none)) else (if 0 ≤ (wrap64 ((t183.length : Int) - t182)) then (if (wrap64 ((t183.length : Int) - t182)) ≤ (t183.length : Int) then (if 1 ≤ (t173.length : Int) then ((spec_l5Rows.f kj2 (t183.take ((wrap64 ((t183.length : Int) - t182)) : Int).toNat) (t173.drop 1)).bind fun bt208 => (some (bt208.1, bt208.2, 0))) else (none)) else (none)) else (none)))) = some (r1, r2, r3) := H
       have A30 := Aside0.mk A300
       clear A300
       replace H := Option.bind_eq_some_iff.mp H
       obtain ⟨t183, A310, H⟩ := H
       replace H : (if (rd l0_1 0) ≥ 0 then (if 0 ≤ t182 then (if t182 ≤ (t183.length : Int) then (if 1 ≤ (t173.length : Int) then ((spec_l5Rows.f kj2 (t183.drop (t182 : Int).toNat) (t173.drop 1)).bind fun bt194 => (some (bt194.1, bt194.2, 0))) else (none)) else (none)) else (none)) else (if 0 ≤ (wrap64 ((t183.length : Int) - t182)) then (if (wrap64 ((t183.length : Int) - t182)) ≤ (t183.length : Int) then (if 1 ≤ (t173.length : Int) then ((spec_l5Rows.f kj2 (t183.take ((wrap64 ((t183.length : Int) - t182)) : Int).toNat) (t173.drop 1)).bind fun bt208 => (some (bt208.1, bt208.2, 0))) else (none)) else (none)) else (none))) = some (r1, r2, r3) := H
       have A31 := Aside0.mk A310
       clear A310
       by_cases c32 : (rd l0_1 0) ≥ 0
       ·
        rw [if_pos c32] at H
        have c32b0 : decide (0 ≤ (rd l0_1 0)) = true := decide_eq_true c32
        clear c32
        by_cases c33 : 0 ≤ t182
        ·
         rw [if_pos c33] at H
         have c33b0 := eq_true c33
         have c33b1 : decide (0 ≤ t182) = true := decide_eq_true c33
         clear c33
         by_cases c34 : t182 ≤ (t183.length : Int)
         ·
          rw [if_pos c34] at H
          have c34b0 := eq_true c34
          have c34b1 : decide (t182 ≤ (t183.length : Int)) = true := decide_eq_true c34
          clear c34
          obtain ⟨y186, hy186⟩ : ∃ y_ : List (S26), y_ = (t183.drop (t182 : Int).toNat) := ⟨_, rfl⟩
          replace H : (if 1 ≤ (t173.length : Int) then ((spec_l5Rows.f kj2 y186 (t173.drop 1)).bind fun bt194 => (some (bt194.1, bt194.2, 0))) else (none)) = some (r1, r2, r3) := by first | (rw [hy186]; with_reducible exact H) | (have H2_ := (Option.bind_some _ _).symm.trans H; rw [hy186]; with_reducible exact H2_) | (have H2_ := (Option.bind_some _ _).symm.trans H; with_reducible exact H2_) | with_reducible exact H | (rw [hy186]; exact H) | exact H
          have Ny186 := Aside0.mk hy186
          clear hy186
          by_cases c35 : 1 ≤ (t173.length : Int)
          ·
           rw [if_pos c35] at H
           have c35b0 := eq_true c35
           have c35b1 : decide (1 ≤ (t173.length : Int)) = true := decide_eq_true c35
           clear c35
           obtain ⟨y189, hy189⟩ : ∃ y_ : List Int, y_ = (t173.drop 1) := ⟨_, rfl⟩
           replace H : ((spec_l5Rows.f kj2 y186 y189).bind fun bt194 => (some (bt194.1, bt194.2, 0))) = some (r1, r2, r3) := by first | (rw [hy189]; with_reducible exact H) | (have H2_ := (Option.bind_some _ _).symm.trans H; rw [hy189]; with_reducible exact H2_) | (have H2_ := (Option.bind_some _ _).symm.trans H; with_reducible exact H2_) | with_reducible exact H | (rw [hy189]; exact H) | exact H
           have Ny189 := Aside0.mk hy189
           clear hy189
           replace H := Option.bind_eq_some_iff.mp H
           obtain ⟨⟨t194, t197⟩, A360, H⟩ := H
           replace H : (some (t194, t197, 0)) = some (r1, r2, r3) := H
           have A36 := Aside0.mk A360
           clear A360
           simp only [Option.some.injEq, Prod.mk.injEq] at H
           obtain ⟨rfl, rfl, rfl⟩ := H
           have hnb37 := NB167_168.out
           have hnc37 := NB168_167.out
           have hnb38 := NB167_169.out
           have hnc38 := NB169_167.out
           have hcz39_0 : wc.cell? ⟨gb167, 0, none⟩ = some (.slice A0_0 l0_0.length c0_0) := (blk_cell BK167.out 0).trans rfl
           have hcz39_1 : wc.cell? ⟨gb167, 1, none⟩ = some (.slice A0_1 l0_1.length c0_1) := (blk_cell BK167.out 1).trans rfl
           have hfz39_0 := blk_frozen BK167.out 0
           have hfz39_1 := blk_frozen BK167.out 1
           have p172 : 0 ≤ (0 : Int) := (by omega)
           have q172 : 0 < (l0_1.length : Int) := of_decide_eq_true (by first | (with_reducible assumption) | assumption)
           obtain ⟨ad172, e172, hx172_0⟩ := Kd.at_int HR0_1.out 0 p172 q172
           cases e172
           have qi172 : (0 < l0_1.length) = True := eq_true (by omega)
           (try rw [show ((0 : Int)).toNat = 0 from rfl] at hx172_0)
           (try rw [Addr.add_zero'] at hx172_0)
           replace hx172_0 := (HB.out.cell (World.block_lt_of_cell? w _ hx172_0)).trans hx172_0
           replace p172 := eq_true p172
           replace q172 := eq_true q172
           have hnb40 := NB168_169.out
           have hnc40 := NB169_168.out
           have hcz41_0 : wc.cell? ⟨gb168, 0, none⟩ = some (.slice A1_0 l1_0.length c1_0) := (blk_cell BK168.out 0).trans rfl
           have hcz41_1 : wc.cell? ⟨gb168, 1, none⟩ = some (.slice A1_1 l1_1.length c1_1) := (blk_cell BK168.out 1).trans rfl
           have hfz41_0 := blk_frozen BK168.out 0
           have hfz41_1 := blk_frozen BK168.out 1
           go_wp2_with (first | (go_at_call 29; (repeat rw [i64_w]); (with_reducible refine (spec_l5Vector.calls (fun k_ => k_ < w.heap.size) _ _ l1_0 (fun k_ => k_ < w.heap.size) _ _ l1_1 t173 t176 _ ?side1 ?side2 A27.out).mono ?_); (case side1 => exact Kd.V_mk HC1_0.out (Kd.F_below (Kd.C_F (Kd.heap_int .i64) HR1_0.out) (bS3 HB.out GE167.out GE168.out GE169.out))); (case side2 => exact Kd.V_mk HC1_1.out (Kd.F_below (Kd.C_F (Kd.heap_int .i64) HR1_1.out) (bS3 HB.out GE167.out GE168.out GE169.out))); rintro e w42 ⟨v174, v177, rfl, ho0, ho1, hb⟩; have HO175 := Aside0.mk (Kd.V_lower (Kd.V_mono (ok' := fun k_ => k_ ≠ gb167 ∧ k_ ≠ gb168 ∧ k_ ≠ gb169) ho0 (fun k_ hk_ => ⟨Or.elim hk_ (fun hs_ => Or.elim hs_ (fun hs_ => fun e_ => Nat.not_le.2 hs_ (by rw [e_]; exact GW167.out)) (fun hs_ => fun e_ => Nat.not_le.2 hs_ (by rw [e_]; exact GW167.out))) (fun hn_ => (Kd.freshB (g := gb167) (o := .cells #[.slice A0_0 l0_0.length c0_0, .slice (some ad172) l0_1.length c0_1] 26 (0, 0)) (kU BK167.out) k_ hn_)), Or.elim hk_ (fun hs_ => Or.elim hs_ (fun hs_ => fun e_ => Nat.not_le.2 hs_ (by rw [e_]; exact GW168.out)) (fun hs_ => fun e_ => Nat.not_le.2 hs_ (by rw [e_]; exact GW168.out))) (fun hn_ => (Kd.freshB (g := gb168) (o := .cells #[.slice A1_0 l1_0.length c1_0, .slice A1_1 l1_1.length c1_1] 26 (0, 0)) (kU BK168.out) k_ hn_)), Or.elim hk_ (fun hs_ => Or.elim hs_ (fun hs_ => fun e_ => Nat.not_le.2 hs_ (by rw [e_]; exact GW169.out)) (fun hs_ => fun e_ => Nat.not_le.2 hs_ (by rw [e_]; exact GW169.out))) (fun hn_ => (Kd.freshB (g := gb169) (o := .cells #[.slice none 0 0, .slice none 0 0] 26 (0, 0)) (kU BK169.out) k_ hn_))⟩)) (below_size (bS3 HB.out GE167.out GE168.out GE169.out))); have HO178 := Aside0.mk (Kd.V_lower (Kd.V_mono (ok' := fun k_ => k_ ≠ gb167 ∧ k_ ≠ gb168 ∧ k_ ≠ gb169) ho1 (fun k_ hk_ => ⟨Or.elim hk_ (fun hs_ => Or.elim hs_ (fun hs_ => fun e_ => Nat.not_le.2 hs_ (by rw [e_]; exact GW167.out)) (fun hs_ => fun e_ => Nat.not_le.2 hs_ (by rw [e_]; exact GW167.out))) (fun hn_ => (Kd.freshB (g := gb167) (o := .cells #[.slice A0_0 l0_0.length c0_0, .slice (some ad172) l0_1.length c0_1] 26 (0, 0)) (kU BK167.out) k_ hn_)), Or.elim hk_ (fun hs_ => Or.elim hs_ (fun hs_ => fun e_ => Nat.not_le.2 hs_ (by rw [e_]; exact GW168.out)) (fun hs_ => fun e_ => Nat.not_le.2 hs_ (by rw [e_]; exact GW168.out))) (fun hn_ => (Kd.freshB (g := gb168) (o := .cells #[.slice A1_0 l1_0.length c1_0, .slice A1_1 l1_1.length c1_1] 26 (0, 0)) (kU BK168.out) k_ hn_)), Or.elim hk_ (fun hs_ => Or.elim hs_ (fun hs_ => fun e_ => Nat.not_le.2 hs_ (by rw [e_]; exact GW169.out)) (fun hs_ => fun e_ => Nat.not_le.2 hs_ (by rw [e_]; exact GW169.out))) (fun hn_ => (Kd.freshB (g := gb169) (o := .cells #[.slice none 0 0, .slice none 0 0] 26 (0, 0)) (kU BK169.out) k_ hn_))⟩)) (below_size (bS3 HB.out GE167.out GE168.out GE169.out))); replace BK167 := Aside0.mk (blk_below (g := gb167) (o := .cells #[.slice A0_0 l0_0.length c0_0, .slice (some ad172) l0_1.length c0_1] 26 (0, 0)) (kU BK167.out) hb); replace BK168 := Aside0.mk (blk_below (g := gb168) (o := .cells #[.slice A1_0 l1_0.length c1_0, .slice A1_1 l1_1.length c1_1] 26 (0, 0)) (kU BK168.out) hb); replace BK169 := Aside0.mk (blk_below (g := gb169) (o := .cells #[.slice none 0 0, .slice none 0 0] 26 (0, 0)) (kU BK169.out) hb); replace HB := Aside0.mk (below_step (bS3 HB.out GE167.out GE168.out GE169.out) hb); (try clear hb); (try clear hb2); (try clear hk); (try clear hi); (try clear ho0); (try clear ho1)) | ((with_reducible refine gate_dst (N := 7) rfl ?_); refine box_event ?hg (N := 7) ?hd (cs := #[.slice none 0 0, .slice none 0 0]) (t := 26) ?hr ?_; (case hd => rfl); (case hg => rfl); (case hr => first | (go_simp; done) | (go_simp; rfl)); intro gb179 hg w43 hbox hb; replace HO175 := Aside0.mk (Kd.V_below (Kd.V_elderB (VU HO175.out) gb179 (Nat.le_of_eq hg.symm)) hb); replace HO178 := Aside0.mk (Kd.V_below (Kd.V_elderB (VU HO178.out) gb179 (Nat.le_of_eq hg.symm)) hb); have BK179 := Aside0.mk (hbox); have GW179 := Aside0.mk ((by rw [hg]; exact (below_size (bS3 HB.out GE167.out GE168.out GE169.out)) : w.heap.size ≤ gb179)); have GE179 := Aside0.mk ((by rw [hg]; exact (below_size (bS3 HB.out GE167.out GE168.out GE169.out)) : w.heap.size ≤ gb179)); replace HB := Aside0.mk (below_step (bS3 HB.out GE167.out GE168.out GE169.out) hb); have NB167_179 := Aside0.mk ((by rw [hg]; exact Nat.ne_of_lt (blk_lt (g := gb167) (o := .cells #[.slice A0_0 l0_0.length c0_0, .slice (some ad172) l0_1.length c0_1] 26 (0, 0)) (kU BK167.out)) : gb167 ≠ gb179)); have NB179_167 := Aside0.mk ((by rw [hg]; exact Nat.ne_of_gt (blk_lt (g := gb167) (o := .cells #[.slice A0_0 l0_0.length c0_0, .slice (some ad172) l0_1.length c0_1] 26 (0, 0)) (kU BK167.out)) : gb179 ≠ gb167)); replace BK167 := Aside0.mk (blk_below (g := gb167) (o := .cells #[.slice A0_0 l0_0.length c0_0, .slice (some ad172) l0_1.length c0_1] 26 (0, 0)) (kU BK167.out) hb); have NB168_179 := Aside0.mk ((by rw [hg]; exact Nat.ne_of_lt (blk_lt (g := gb168) (o := .cells #[.slice A1_0 l1_0.length c1_0, .slice A1_1 l1_1.length c1_1] 26 (0, 0)) (kU BK168.out)) : gb168 ≠ gb179)); have NB179_168 := Aside0.mk ((by rw [hg]; exact Nat.ne_of_gt (blk_lt (g := gb168) (o := .cells #[.slice A1_0 l1_0.length c1_0, .slice A1_1 l1_1.length c1_1] 26 (0, 0)) (kU BK168.out)) : gb179 ≠ gb168)); replace BK168 := Aside0.mk (blk_below (g := gb168) (o := .cells #[.slice A1_0 l1_0.length c1_0, .slice A1_1 l1_1.length c1_1] 26 (0, 0)) (kU BK168.out) hb); have NB169_179 := Aside0.mk ((by rw [hg]; exact Nat.ne_of_lt (blk_lt (g := gb169) (o := .cells #[.slice none 0 0, .slice none 0 0] 26 (0, 0)) (kU BK169.out)) : gb169 ≠ gb179)); have NB179_169 := Aside0.mk ((by rw [hg]; exact Nat.ne_of_gt (blk_lt (g := gb169) (o := .cells #[.slice none 0 0, .slice none 0 0] 26 (0, 0)) (kU BK169.out)) : gb179 ≠ gb169)); replace BK169 := Aside0.mk (blk_below (g := gb169) (o := .cells #[.slice none 0 0, .slice none 0 0] 26 (0, 0)) (kU BK169.out) hb); clear hb hbox hg; obtain ⟨Ao44, co44, eo44⟩ := Kd.V_slice HO175.out; subst eo44; have hnb45 := NB179_167.out; have hnc45 := NB167_179.out; have hnb46 := NB179_168.out; have hnc46 := NB168_179.out; have hnb47 := NB179_169.out; have hnc47 := NB169_179.out; have hcz48_0 : w43.cell? ⟨gb179, 0, none⟩ = some (.slice none 0 0) := (blk_cell BK179.out 0).trans rfl; have hcz48_1 : w43.cell? ⟨gb179, 1, none⟩ = some (.slice none 0 0) := (blk_cell BK179.out 1).trans rfl; have hfz48_0 := blk_frozen BK179.out 0; have hfz48_1 := blk_frozen BK179.out 1; obtain ⟨Ao49, co49, eo49⟩ := Kd.V_slice HO178.out; subst eo49) | (go_at_call 31; (repeat rw [i64_w]); (with_reducible refine (spec_l1Max.calls (rd l0_1 0) (wrap64 (-(rd l0_1 0))) t180 _ A28.out).mono ?_); rintro e w' ⟨rfl, ⟨nd, rfl⟩⟩; (try first | exact ⟨rfl, _, World.drewN_drewN _ _ _⟩ | exact ⟨rfl, _, Eq.trans (World.drewN_drewN _ _ _) (congrArg (World.drewN _) (Nat.add_assoc _ _ _))⟩); have p181 : 0 ≤ (0 : Int) := (by omega); have q181 : 0 < (t173.length : Int) := of_decide_eq_true (by first | (with_reducible assumption) | assumption); obtain ⟨ad181, e181, hx181_0⟩ := Kd.at_int (Kd.V_reads' HO175.out).2.2 0 p181 q181; cases e181; have qi181 : (0 < t173.length) = True := eq_true (by omega); (try rw [show ((0 : Int)).toNat = 0 from rfl] at hx181_0); (try rw [Addr.add_zero'] at hx181_0); have hn181_0 : ad181.block ≠ gb179 := Kd.own_blk (Kd.V_ne HO175.out BK179.out (by decide)); have hn181_1 : ad181.block ≠ gb179 := Kd.own_blk (Kd.V_ne HO175.out BK179.out (by decide)); replace hx181_0 := (cell_far (p := ⟨gb179, 0, none⟩) (by first | (rw [add_block]; exact hn181_0) | (show (Addr.add _ _).block ≠ _; rw [add_block]; exact hn181_0) | exact hn181_0) (.slice (some ad181) t173.length co44)).trans hx181_0; replace hx181_0 := (cell_far (p := ⟨gb179, 1, none⟩) (by first | (rw [add_block]; exact hn181_1) | (show (Addr.add _ _).block ≠ _; rw [add_block]; exact hn181_1) | exact hn181_1) (.slice Ao49 t176.length co49)).trans hx181_0; (try have hy181_0 := fun (n_ : Nat) => (show ((((w43.drewN n_).setCell ⟨gb179, 0, none⟩ (.slice (some ad181) t173.length co44)).setCell ⟨gb179, 1, none⟩ (.slice Ao49 t176.length co49))).cell? _ = some _ from hx181_0)); clear hn181_0; clear hn181_1; replace p181 := eq_true p181; replace q181 := eq_true q181) | (go_at_call 30; (repeat rw [i64_w]); (with_reducible refine (spec_l1Min.calls t180 (rd t173 0) t182 _ A30.out).mono ?_); rintro e w' ⟨rfl, ⟨nd, rfl⟩⟩; (try first | exact ⟨rfl, _, World.drewN_drewN _ _ _⟩ | exact ⟨rfl, _, Eq.trans (World.drewN_drewN _ _ _) (congrArg (World.drewN _) (Nat.add_assoc _ _ _))⟩)) | (go_at_call 32; (repeat rw [i64_w]); (with_reducible refine (spec_l3Rows.calls kj2 _ _ t173 _ _ t176 t183 _ ?side1 ?side2 ?side3 ?side4 A31.out).mono ?_); (case side1 => refine (Kd.V_reads' (e := 3) (base := w.heap.size) (ok := fun k_ => ((k_ ≠ gb167 ∧ (k_ ≠ gb168 ∧ k_ ≠ gb169)) ∧ k_ ≠ gb179)) (n := t173.length) (c := co44) ?_).2.2; exact (by (with_reducible repeat (first | apply Kd.V_alloc | apply Kd.V_drewN | apply Kd.V_drew)); exact (Kd.V_mono (Kd.V_far (p := ⟨gb179, 1, none⟩) (Kd.V_far (p := ⟨gb179, 0, none⟩) (Kd.V_mono HO175.out (fun k_ hk => (⟨hk, hk.2⟩ : _ ∧ k_ ≠ gb179))) (fun _ hk => hk.2) (.slice (some ad181) t173.length co44)) (fun _ hk => hk.2) (.slice Ao49 t176.length co49)) (fun _ h_ => h_.1)))); (case side2 => exact (Kd.V_reads' HO175.out).2.1); (case side3 => refine (Kd.V_reads' (e := 3) (base := w.heap.size) (ok := fun k_ => ((k_ ≠ gb167 ∧ (k_ ≠ gb168 ∧ k_ ≠ gb169)) ∧ k_ ≠ gb179)) (n := t176.length) (c := co49) ?_).2.2; exact (by (with_reducible repeat (first | apply Kd.V_alloc | apply Kd.V_drewN | apply Kd.V_drew)); exact (Kd.V_mono (Kd.V_far (p := ⟨gb179, 1, none⟩) (Kd.V_far (p := ⟨gb179, 0, none⟩) (Kd.V_mono HO178.out (fun k_ hk => (⟨hk, hk.2⟩ : _ ∧ k_ ≠ gb179))) (fun _ hk => hk.2) (.slice (some ad181) t173.length co44)) (fun _ hk => hk.2) (.slice Ao49 t176.length co49)) (fun _ h_ => h_.1)))); (case side4 => exact (Kd.V_reads' HO178.out).2.1); rintro e w50 ⟨v184, rfl, ho0, hb⟩; replace HO175 := Aside0.mk (Kd.V_elder' (by (with_reducible repeat (first | apply Kd.V_alloc | apply Kd.V_drewN | apply Kd.V_drew)); exact (Kd.V_mono (Kd.V_far (p := ⟨gb179, 1, none⟩) (Kd.V_far (p := ⟨gb179, 0, none⟩) (Kd.V_mono HO175.out (fun k_ hk => (⟨hk, hk.2⟩ : _ ∧ k_ ≠ gb179))) (fun _ hk => hk.2) (.slice (some ad181) t173.length co44)) (fun _ hk => hk.2) (.slice Ao49 t176.length co49)) (fun _ h_ => h_.1))) (Kd.S_base ho0) hb); replace HO178 := Aside0.mk (Kd.V_elder' (by (with_reducible repeat (first | apply Kd.V_alloc | apply Kd.V_drewN | apply Kd.V_drew)); exact (Kd.V_mono (Kd.V_far (p := ⟨gb179, 1, none⟩) (Kd.V_far (p := ⟨gb179, 0, none⟩) (Kd.V_mono HO178.out (fun k_ hk => (⟨hk, hk.2⟩ : _ ∧ k_ ≠ gb179))) (fun _ hk => hk.2) (.slice (some ad181) t173.length co44)) (fun _ hk => hk.2) (.slice Ao49 t176.length co49)) (fun _ h_ => h_.1))) (Kd.S_base ho0) hb); have HO185 := Aside0.mk (Kd.S_lower (Kd.S_newB (Kd.S_newB (Kd.S_newB (Kd.S_newB ho0 (g := gb167) (o := .cells #[.slice A0_0 l0_0.length c0_0, .slice (some ad172) l0_1.length c0_1] 26 (0, 0)) (by (with_reducible repeat (first | refine blk_drewN ?_ _ | refine blk_drew ?_ | refine blk_alloc ?_ _)); refine blk_far ?_ NB167_179.out _; (with_reducible repeat (first | refine blk_drewN ?_ _ | refine blk_drew ?_ | refine blk_alloc ?_ _)); refine blk_far ?_ NB167_179.out _; (with_reducible repeat (first | refine blk_drewN ?_ _ | refine blk_drew ?_ | refine blk_alloc ?_ _)); exact BK167.out)) (g := gb168) (o := .cells #[.slice A1_0 l1_0.length c1_0, .slice A1_1 l1_1.length c1_1] 26 (0, 0)) (by (with_reducible repeat (first | refine blk_drewN ?_ _ | refine blk_drew ?_ | refine blk_alloc ?_ _)); refine blk_far ?_ NB168_179.out _; (with_reducible repeat (first | refine blk_drewN ?_ _ | refine blk_drew ?_ | refine blk_alloc ?_ _)); refine blk_far ?_ NB168_179.out _; (with_reducible repeat (first | refine blk_drewN ?_ _ | refine blk_drew ?_ | refine blk_alloc ?_ _)); exact BK168.out)) (g := gb169) (o := .cells #[.slice none 0 0, .slice none 0 0] 26 (0, 0)) (by (with_reducible repeat (first | refine blk_drewN ?_ _ | refine blk_drew ?_ | refine blk_alloc ?_ _)); refine blk_far ?_ NB169_179.out _; (with_reducible repeat (first | refine blk_drewN ?_ _ | refine blk_drew ?_ | refine blk_alloc ?_ _)); refine blk_far ?_ NB169_179.out _; (with_reducible repeat (first | refine blk_drewN ?_ _ | refine blk_drew ?_ | refine blk_alloc ?_ _)); exact BK169.out)) (g := gb179) (o := .cells #[.slice (some ad181) t173.length co44, .slice Ao49 t176.length co49] 26 (0, 0)) (by (with_reducible repeat (first | refine blk_drewN ?_ _ | refine blk_drew ?_ | refine blk_alloc ?_ _)); refine blk_put (cs := #[.slice (some ad181) t173.length co44, .slice none 0 0]) ?_ 1 _ rfl; (with_reducible repeat (first | refine blk_drewN ?_ _ | refine blk_drew ?_ | refine blk_alloc ?_ _)); refine blk_put (cs := #[.slice none 0 0, .slice none 0 0]) ?_ 0 _ rfl; (with_reducible repeat (first | refine blk_drewN ?_ _ | refine blk_drew ?_ | refine blk_alloc ?_ _)); exact BK179.out)) (below_size (bS4 HB.out GE167.out GE168.out GE169.out GE179.out))); replace BK167 := Aside0.mk (blk_below (g := gb167) (o := .cells #[.slice A0_0 l0_0.length c0_0, .slice (some ad172) l0_1.length c0_1] 26 (0, 0)) (by (with_reducible repeat (first | refine blk_drewN ?_ _ | refine blk_drew ?_ | refine blk_alloc ?_ _)); refine blk_far ?_ NB167_179.out _; (with_reducible repeat (first | refine blk_drewN ?_ _ | refine blk_drew ?_ | refine blk_alloc ?_ _)); refine blk_far ?_ NB167_179.out _; (with_reducible repeat (first | refine blk_drewN ?_ _ | refine blk_drew ?_ | refine blk_alloc ?_ _)); exact BK167.out) hb); replace BK168 := Aside0.mk (blk_below (g := gb168) (o := .cells #[.slice A1_0 l1_0.length c1_0, .slice A1_1 l1_1.length c1_1] 26 (0, 0)) (by (with_reducible repeat (first | refine blk_drewN ?_ _ | refine blk_drew ?_ | refine blk_alloc ?_ _)); refine blk_far ?_ NB168_179.out _; (with_reducible repeat (first | refine blk_drewN ?_ _ | refine blk_drew ?_ | refine blk_alloc ?_ _)); refine blk_far ?_ NB168_179.out _; (with_reducible repeat (first | refine blk_drewN ?_ _ | refine blk_drew ?_ | refine blk_alloc ?_ _)); exact BK168.out) hb); replace BK169 := Aside0.mk (blk_below (g := gb169) (o := .cells #[.slice none 0 0, .slice none 0 0] 26 (0, 0)) (by (with_reducible repeat (first | refine blk_drewN ?_ _ | refine blk_drew ?_ | refine blk_alloc ?_ _)); refine blk_far ?_ NB169_179.out _; (with_reducible repeat (first | refine blk_drewN ?_ _ | refine blk_drew ?_ | refine blk_alloc ?_ _)); refine blk_far ?_ NB169_179.out _; (with_reducible repeat (first | refine blk_drewN ?_ _ | refine blk_drew ?_ | refine blk_alloc ?_ _)); exact BK169.out) hb); replace BK179 := Aside0.mk (blk_below (g := gb179) (o := .cells #[.slice (some ad181) t173.length co44, .slice Ao49 t176.length co49] 26 (0, 0)) (by (with_reducible repeat (first | refine blk_drewN ?_ _ | refine blk_drew ?_ | refine blk_alloc ?_ _)); refine blk_put (cs := #[.slice (some ad181) t173.length co44, .slice none 0 0]) ?_ 1 _ rfl; (with_reducible repeat (first | refine blk_drewN ?_ _ | refine blk_drew ?_ | refine blk_alloc ?_ _)); refine blk_put (cs := #[.slice none 0 0, .slice none 0 0]) ?_ 0 _ rfl; (with_reducible repeat (first | refine blk_drewN ?_ _ | refine blk_drew ?_ | refine blk_alloc ?_ _)); exact BK179.out) hb); replace HB := Aside0.mk (below_step (bS4 HB.out GE167.out GE168.out GE169.out GE179.out) hb); (try clear hb); (try clear hb2); (try clear hk); (try clear hi); (try clear ho0); obtain ⟨Ao51, co51, eo51⟩ := Kd.S_slice HO185.out; subst eo51; have n_ := Aside0.mk (Kd.S_mono (ok' := (fun k_ => k_ ≠ gb167 ∧ k_ ≠ gb168 ∧ k_ ≠ gb169 ∧ k_ ≠ gb179)) HO185.out (fun k_ hk => ⟨hk.1.1.1.2, ⟨hk.1.1.2, ⟨hk.1.2, hk.2⟩⟩⟩)); clear HO185; have HO185 := n_; clear n_; have q52 : (t182 : Int) ≤ ((t183.length : Int) : Int) := of_decide_eq_true (by first | (with_reducible assumption) | assumption); obtain ⟨i052, hi052, _, hsz52, _⟩ := info_parts info26; have hcut52 := cut_from (P := Try.prog) 45 26 .i64 Try.underlying45 hi052 2 hsz52 Ao51 t183.length co51 t182 (of_decide_eq_true (by first | (with_reducible assumption) | assumption)) q52; have hr52 := Kd.Q_drop (k := (t182 : Int).toNat) (Kd.Q_of_R (Kd.S_R HO185.out)) (by omega); obtain ⟨A52, hA52⟩ : ∃ A1, A1 = (if co51 = (t182 : Int).toNat then Ao51 else (Ao51 : Option Addr).map (·.add ((t182 : Int).toNat * 2))) := ⟨_, rfl⟩; obtain ⟨c52, hc52⟩ : ∃ c1, c1 = co51 - (t182 : Int).toNat := ⟨_, rfl⟩; have hy52 : y186.length = t183.length - (t182 : Int).toNat := (by rw [Ny186.out, List.length_drop]); rw [← Ny186.out] at hr52; rw [← hy52, ← hA52, ← hc52] at hcut52; replace hr52 : Kd.Q k26 26 w50 w.heap.size (fun k_ => k_ ≠ gb167 ∧ k_ ≠ gb168 ∧ k_ ≠ gb169 ∧ k_ ≠ gb179) (.slice A52 y186.length c52) y186 := (by rw [hA52, hc52, hy52]; exact hr52); have HE52 : Aside0 ((Value.slice A52 y186.length c52).ownBlock = (.slice Ao51 t183.length co51 : Value).ownBlock) := ⟨by rw [hA52]; split <;> (cases (Ao51 : Option Addr) <;> first | rfl | (simp [Value.ownBlock, add_block]; done))⟩; clear hy52 hi052 hsz52 HO185 hA52 hc52; have HO188 := Aside0.mk hr52; clear hr52; replace q52 := eq_true q52; have n_ := Aside0.mk (Kd.V_mono (ok' := fun k_ => (((k_ ≠ gb167 ∧ (k_ ≠ gb168 ∧ k_ ≠ gb169)) ∧ k_ ≠ gb179) ∧ some k_ ≠ (.slice A52 y186.length c52 : Value).ownBlock)) HO175.out (fun k_ hk => ⟨⟨⟨hk.1.1.1, ⟨hk.1.1.2.1, hk.1.1.2.2⟩⟩, hk.1.2⟩, (by rw [HE52.out]; exact hk.2)⟩)); clear HO175; have HO175 := n_; clear n_; have n_ := Aside0.mk (Kd.V_mono (ok' := fun k_ => (((k_ ≠ gb167 ∧ (k_ ≠ gb168 ∧ k_ ≠ gb169)) ∧ k_ ≠ gb179) ∧ some k_ ≠ (.slice A52 y186.length c52 : Value).ownBlock)) HO178.out (fun k_ hk => ⟨⟨⟨hk.1.1.1, ⟨hk.1.1.2.1, hk.1.1.2.2⟩⟩, hk.1.2⟩, (by rw [HE52.out]; exact hk.2)⟩)); clear HO178; have HO178 := n_; clear n_; have hcz53_0 : w50.cell? ⟨gb179, 0, none⟩ = some (.slice (some ad181) t173.length co44) := (blk_cell BK179.out 0).trans rfl; have hcz53_1 : w50.cell? ⟨gb179, 1, none⟩ = some (.slice Ao49 t176.length co49) := (blk_cell BK179.out 1).trans rfl; have hfz53_0 := blk_frozen BK179.out 0; have hfz53_1 := blk_frozen BK179.out 1; have q54 : (1 : Int) ≤ ((t173.length : Int) : Int) := of_decide_eq_true (by first | (with_reducible assumption) | assumption); obtain ⟨i054, hi054, _, hsz54, _⟩ := info_parts info3; have hroom54 : t173.length ≤ co44 := (Kd.V_reads' HO175.out).2.1; have hC54 : Kd.F (Kd.int .i64) _ _ (some ad181) t173.length t173 := (Kd.V_at (base := w.heap.size) HO175.out).2.2; have hcut54 := cut_from (P := Try.prog) 22 3 .i64 Try.underlying22 hi054 1 hsz54 (some ad181) t173.length co44 1 (by omega) q54; have hr54 := Kd.F_cut (m := (1 : Int).toNat) (c := co44) hC54 (by omega) hroom54; obtain ⟨A54, hA54⟩ : ∃ A1, A1 = (if co44 = (1 : Int).toNat then (some ad181) else ((some ad181) : Option Addr).map (·.add ((1 : Int).toNat * 1))) := ⟨_, rfl⟩; obtain ⟨c54, hc54⟩ : ∃ c1, c1 = co44 - (1 : Int).toNat := ⟨_, rfl⟩; have hy54 : y189.length = t173.length - (1 : Int).toNat := (by rw [Ny189.out, List.length_drop] <;> omega); rw [show (t173).drop (1 : Int).toNat = y189 from Ny189.out.symm] at hr54; replace hr54 : Kd.F (Kd.int .i64) _ _ A54 y189.length y189 := (by rw [hA54]; exact hr54); rw [← hy54, ← hA54, ← hc54] at hcut54; have HO193 := Aside0.mk (show Kd.V (Kd.int .i64) 3 _ w.heap.size _ (.slice A54 y189.length c54) y189 from Kd.V_mk (by rw [hy54, hc54]; exact Nat.sub_le_sub_right hroom54 _) hr54); have HC193 := Aside0.mk (show y189.length ≤ c54 from by rw [hy54, hc54]; exact Nat.sub_le_sub_right hroom54 _); clear hr54 hC54 hroom54 hi054 hsz54 hc54; have KY54 := Aside0.mk hy54; have KA54 := Aside0.mk hA54; clear hy54 hA54; replace q54 := eq_true q54) | (go_at_call 33; (repeat rw [i64_w]); (with_reducible refine (spec_l5Rows.calls kj2 _ _ y186 _ _ y189 t194 t197 _ ?side1 ?side2 ?side3 ?side4 A36.out).mono ?_); (case side1 => exact cU (Kd.Q_reads' HO188.out).2.2); (case side2 => exact (Kd.Q_reads' HO188.out).2.1); (case side3 => exact cU (Kd.V_reads' HO193.out).2.2); (case side4 => exact (Kd.V_reads' HO193.out).2.1); rintro e w55 ⟨v195, v198, rfl, ho0, ho1, hb⟩; replace HO175 := Aside0.mk (Kd.V_mono (Kd.V_told (Kd.V_told (Kd.V_old (VU HO175.out) hb) (Kd.R_base ho0)) (Kd.R_base ho1)) (fun _ h_ => h_.1)); replace HO178 := Aside0.mk (Kd.V_mono (Kd.V_told (Kd.V_told (Kd.V_old (VU HO178.out) hb) (Kd.R_base ho0)) (Kd.R_base ho1)) (fun _ h_ => h_.1)); replace HO188 := Aside0.mk (Kd.Q_mono (Kd.Q_told (Kd.Q_told (Kd.Q_old (by (with_reducible repeat (first | apply Kd.Q_alloc | apply Kd.Q_drewN | apply Kd.Q_drew)); exact HO188.out) hb) (Kd.R_base ho0)) (Kd.R_base ho1)) (fun _ h_ => h_.1)); replace HO193 := Aside0.mk (Kd.V_mono (Kd.V_told (Kd.V_told (Kd.V_old (VU HO193.out) hb) (Kd.R_base ho0)) (Kd.R_base ho1)) (fun _ h_ => h_.1)); have HO196 := Aside0.mk (Kd.R_lower ho0 (below_size (bS4 HB.out GE167.out GE168.out GE169.out GE179.out))); have HO199 := Aside0.mk (Kd.R_lower ho1 (below_size (bS4 HB.out GE167.out GE168.out GE169.out GE179.out))); replace BK167 := Aside0.mk (blk_below (g := gb167) (o := .cells #[.slice A0_0 l0_0.length c0_0, .slice (some ad172) l0_1.length c0_1] 26 (0, 0)) (kU BK167.out) hb); replace BK168 := Aside0.mk (blk_below (g := gb168) (o := .cells #[.slice A1_0 l1_0.length c1_0, .slice A1_1 l1_1.length c1_1] 26 (0, 0)) (kU BK168.out) hb); replace BK169 := Aside0.mk (blk_below (g := gb169) (o := .cells #[.slice none 0 0, .slice none 0 0] 26 (0, 0)) (kU BK169.out) hb); replace BK179 := Aside0.mk (blk_below (g := gb179) (o := .cells #[.slice (some ad181) t173.length co44, .slice Ao49 t176.length co49] 26 (0, 0)) (kU BK179.out) hb); replace HB := Aside0.mk (below_step (bS4 HB.out GE167.out GE168.out GE169.out GE179.out) hb); (try clear hb); (try clear hb2); (try clear hk); (try clear hi); (try clear ho0); (try clear ho1); obtain ⟨Ao56, co56, eo56⟩ := Kd.R_slice HO196.out; subst eo56; have hcz57_0 : w55.cell? ⟨gb169, 0, none⟩ = some (.slice none 0 0) := (blk_cell BK169.out 0).trans rfl; have hcz57_1 : w55.cell? ⟨gb169, 1, none⟩ = some (.slice none 0 0) := (blk_cell BK169.out 1).trans rfl; have hfz57_0 := blk_frozen BK169.out 0; have hfz57_1 := blk_frozen BK169.out 1; obtain ⟨Ao58, co58, eo58⟩ := Kd.R_slice HO199.out; subst eo58))
           have p181 : 0 ≤ (0 : Int) := (by omega)
           have q181 : 0 < (t173.length : Int) := of_decide_eq_true (by first | (with_reducible assumption) | assumption)
           obtain ⟨ad181, e181, hx181_0⟩ := Kd.at_int (Kd.V_reads' HO175.out).2.2 0 p181 q181
           cases e181
           have qi181 : (0 < t173.length) = True := eq_true (by omega)
           (try rw [show ((0 : Int)).toNat = 0 from rfl] at hx181_0)
           (try rw [Addr.add_zero'] at hx181_0)
           obtain ⟨_, e_, hz_⟩ := Kd.at_int (Kd.V_reads' (Kd.V_far (p := ⟨gb179, 1, none⟩) (Kd.V_far (p := ⟨gb179, 0, none⟩) HO175.out (fun _ hk => hk.2) (.slice (some ad181) t173.length co44)) (fun _ hk => hk.2) (.slice Ao49 t176.length co49))).2.2 0 p181 q181
           cases e_
           replace hx181_0 := hz_
           (try rw [show ((0 : Int)).toNat = 0 from rfl] at hx181_0)
           (try rw [Addr.add_zero'] at hx181_0)
           (try have hy181_0 := fun (n_ : Nat) => (show ((((w43.drewN n_).setCell ⟨gb179, 0, none⟩ (.slice (some ad181) t173.length co44)).setCell ⟨gb179, 1, none⟩ (.slice Ao49 t176.length co49))).cell? _ = some _ from hx181_0))
           replace p181 := eq_true p181
           replace q181 := eq_true q181
           repeat (go_quiet (first | (go_at_call 31; (repeat rw [i64_w]); (with_reducible refine (spec_l1Max.calls (rd l0_1 0) (wrap64 (-(rd l0_1 0))) t180 _ A28.out).mono ?_); rintro e w' ⟨rfl, ⟨nd, rfl⟩⟩; (try first | exact ⟨rfl, _, World.drewN_drewN _ _ _⟩ | exact ⟨rfl, _, Eq.trans (World.drewN_drewN _ _ _) (congrArg (World.drewN _) (Nat.add_assoc _ _ _))⟩)) | (go_at_call 30; (repeat rw [i64_w]); (with_reducible refine (spec_l1Min.calls t180 (rd t173 0) t182 _ A30.out).mono ?_); rintro e w' ⟨rfl, ⟨nd, rfl⟩⟩; (try first | exact ⟨rfl, _, World.drewN_drewN _ _ _⟩ | exact ⟨rfl, _, Eq.trans (World.drewN_drewN _ _ _) (congrArg (World.drewN _) (Nat.add_assoc _ _ _))⟩))); try go_wp2_with (first | (go_at_call 29; (repeat rw [i64_w]); (with_reducible refine (spec_l5Vector.calls (fun k_ => k_ < w.heap.size) _ _ l1_0 (fun k_ => k_ < w.heap.size) _ _ l1_1 t173 t176 _ ?side1 ?side2 A27.out).mono ?_); (case side1 => exact Kd.V_mk HC1_0.out (Kd.F_below (Kd.C_F (Kd.heap_int .i64) HR1_0.out) (bS3 HB.out GE167.out GE168.out GE169.out))); (case side2 => exact Kd.V_mk HC1_1.out (Kd.F_below (Kd.C_F (Kd.heap_int .i64) HR1_1.out) (bS3 HB.out GE167.out GE168.out GE169.out))); rintro e w42 ⟨v174, v177, rfl, ho0, ho1, hb⟩; have HO175 := Aside0.mk (Kd.V_lower (Kd.V_mono (ok' := fun k_ => k_ ≠ gb167 ∧ k_ ≠ gb168 ∧ k_ ≠ gb169) ho0 (fun k_ hk_ => ⟨Or.elim hk_ (fun hs_ => Or.elim hs_ (fun hs_ => fun e_ => Nat.not_le.2 hs_ (by rw [e_]; exact GW167.out)) (fun hs_ => fun e_ => Nat.not_le.2 hs_ (by rw [e_]; exact GW167.out))) (fun hn_ => (Kd.freshB (g := gb167) (o := .cells #[.slice A0_0 l0_0.length c0_0, .slice (some ad172) l0_1.length c0_1] 26 (0, 0)) (kU BK167.out) k_ hn_)), Or.elim hk_ (fun hs_ => Or.elim hs_ (fun hs_ => fun e_ => Nat.not_le.2 hs_ (by rw [e_]; exact GW168.out)) (fun hs_ => fun e_ => Nat.not_le.2 hs_ (by rw [e_]; exact GW168.out))) (fun hn_ => (Kd.freshB (g := gb168) (o := .cells #[.slice A1_0 l1_0.length c1_0, .slice A1_1 l1_1.length c1_1] 26 (0, 0)) (kU BK168.out) k_ hn_)), Or.elim hk_ (fun hs_ => Or.elim hs_ (fun hs_ => fun e_ => Nat.not_le.2 hs_ (by rw [e_]; exact GW169.out)) (fun hs_ => fun e_ => Nat.not_le.2 hs_ (by rw [e_]; exact GW169.out))) (fun hn_ => (Kd.freshB (g := gb169) (o := .cells #[.slice none 0 0, .slice none 0 0] 26 (0, 0)) (kU BK169.out) k_ hn_))⟩)) (below_size (bS3 HB.out GE167.out GE168.out GE169.out))); have HO178 := Aside0.mk (Kd.V_lower (Kd.V_mono (ok' := fun k_ => k_ ≠ gb167 ∧ k_ ≠ gb168 ∧ k_ ≠ gb169) ho1 (fun k_ hk_ => ⟨Or.elim hk_ (fun hs_ => Or.elim hs_ (fun hs_ => fun e_ => Nat.not_le.2 hs_ (by rw [e_]; exact GW167.out)) (fun hs_ => fun e_ => Nat.not_le.2 hs_ (by rw [e_]; exact GW167.out))) (fun hn_ => (Kd.freshB (g := gb167) (o := .cells #[.slice A0_0 l0_0.length c0_0, .slice (some ad172) l0_1.length c0_1] 26 (0, 0)) (kU BK167.out) k_ hn_)), Or.elim hk_ (fun hs_ => Or.elim hs_ (fun hs_ => fun e_ => Nat.not_le.2 hs_ (by rw [e_]; exact GW168.out)) (fun hs_ => fun e_ => Nat.not_le.2 hs_ (by rw [e_]; exact GW168.out))) (fun hn_ => (Kd.freshB (g := gb168) (o := .cells #[.slice A1_0 l1_0.length c1_0, .slice A1_1 l1_1.length c1_1] 26 (0, 0)) (kU BK168.out) k_ hn_)), Or.elim hk_ (fun hs_ => Or.elim hs_ (fun hs_ => fun e_ => Nat.not_le.2 hs_ (by rw [e_]; exact GW169.out)) (fun hs_ => fun e_ => Nat.not_le.2 hs_ (by rw [e_]; exact GW169.out))) (fun hn_ => (Kd.freshB (g := gb169) (o := .cells #[.slice none 0 0, .slice none 0 0] 26 (0, 0)) (kU BK169.out) k_ hn_))⟩)) (below_size (bS3 HB.out GE167.out GE168.out GE169.out))); replace BK167 := Aside0.mk (blk_below (g := gb167) (o := .cells #[.slice A0_0 l0_0.length c0_0, .slice (some ad172) l0_1.length c0_1] 26 (0, 0)) (kU BK167.out) hb); replace BK168 := Aside0.mk (blk_below (g := gb168) (o := .cells #[.slice A1_0 l1_0.length c1_0, .slice A1_1 l1_1.length c1_1] 26 (0, 0)) (kU BK168.out) hb); replace BK169 := Aside0.mk (blk_below (g := gb169) (o := .cells #[.slice none 0 0, .slice none 0 0] 26 (0, 0)) (kU BK169.out) hb); replace HB := Aside0.mk (below_step (bS3 HB.out GE167.out GE168.out GE169.out) hb); (try clear hb); (try clear hb2); (try clear hk); (try clear hi); (try clear ho0); (try clear ho1)) | ((with_reducible refine gate_dst (N := 7) rfl ?_); refine box_event ?hg (N := 7) ?hd (cs := #[.slice none 0 0, .slice none 0 0]) (t := 26) ?hr ?_; (case hd => rfl); (case hg => rfl); (case hr => first | (go_simp; done) | (go_simp; rfl)); intro gb179 hg w43 hbox hb; replace HO175 := Aside0.mk (Kd.V_below (Kd.V_elderB (VU HO175.out) gb179 (Nat.le_of_eq hg.symm)) hb); replace HO178 := Aside0.mk (Kd.V_below (Kd.V_elderB (VU HO178.out) gb179 (Nat.le_of_eq hg.symm)) hb); have BK179 := Aside0.mk (hbox); have GW179 := Aside0.mk ((by rw [hg]; exact (below_size (bS3 HB.out GE167.out GE168.out GE169.out)) : w.heap.size ≤ gb179)); have GE179 := Aside0.mk ((by rw [hg]; exact (below_size (bS3 HB.out GE167.out GE168.out GE169.out)) : w.heap.size ≤ gb179)); replace HB := Aside0.mk (below_step (bS3 HB.out GE167.out GE168.out GE169.out) hb); have NB167_179 := Aside0.mk ((by rw [hg]; exact Nat.ne_of_lt (blk_lt (g := gb167) (o := .cells #[.slice A0_0 l0_0.length c0_0, .slice (some ad172) l0_1.length c0_1] 26 (0, 0)) (kU BK167.out)) : gb167 ≠ gb179)); have NB179_167 := Aside0.mk ((by rw [hg]; exact Nat.ne_of_gt (blk_lt (g := gb167) (o := .cells #[.slice A0_0 l0_0.length c0_0, .slice (some ad172) l0_1.length c0_1] 26 (0, 0)) (kU BK167.out)) : gb179 ≠ gb167)); replace BK167 := Aside0.mk (blk_below (g := gb167) (o := .cells #[.slice A0_0 l0_0.length c0_0, .slice (some ad172) l0_1.length c0_1] 26 (0, 0)) (kU BK167.out) hb); have NB168_179 := Aside0.mk ((by rw [hg]; exact Nat.ne_of_lt (blk_lt (g := gb168) (o := .cells #[.slice A1_0 l1_0.length c1_0, .slice A1_1 l1_1.length c1_1] 26 (0, 0)) (kU BK168.out)) : gb168 ≠ gb179)); have NB179_168 := Aside0.mk ((by rw [hg]; exact Nat.ne_of_gt (blk_lt (g := gb168) (o := .cells #[.slice A1_0 l1_0.length c1_0, .slice A1_1 l1_1.length c1_1] 26 (0, 0)) (kU BK168.out)) : gb179 ≠ gb168)); replace BK168 := Aside0.mk (blk_below (g := gb168) (o := .cells #[.slice A1_0 l1_0.length c1_0, .slice A1_1 l1_1.length c1_1] 26 (0, 0)) (kU BK168.out) hb); have NB169_179 := Aside0.mk ((by rw [hg]; exact Nat.ne_of_lt (blk_lt (g := gb169) (o := .cells #[.slice none 0 0, .slice none 0 0] 26 (0, 0)) (kU BK169.out)) : gb169 ≠ gb179)); have NB179_169 := Aside0.mk ((by rw [hg]; exact Nat.ne_of_gt (blk_lt (g := gb169) (o := .cells #[.slice none 0 0, .slice none 0 0] 26 (0, 0)) (kU BK169.out)) : gb179 ≠ gb169)); replace BK169 := Aside0.mk (blk_below (g := gb169) (o := .cells #[.slice none 0 0, .slice none 0 0] 26 (0, 0)) (kU BK169.out) hb); clear hb hbox hg; obtain ⟨Ao44, co44, eo44⟩ := Kd.V_slice HO175.out; subst eo44; have hnb45 := NB179_167.out; have hnc45 := NB167_179.out; have hnb46 := NB179_168.out; have hnc46 := NB168_179.out; have hnb47 := NB179_169.out; have hnc47 := NB169_179.out; have hcz48_0 : w43.cell? ⟨gb179, 0, none⟩ = some (.slice none 0 0) := (blk_cell BK179.out 0).trans rfl; have hcz48_1 : w43.cell? ⟨gb179, 1, none⟩ = some (.slice none 0 0) := (blk_cell BK179.out 1).trans rfl; have hfz48_0 := blk_frozen BK179.out 0; have hfz48_1 := blk_frozen BK179.out 1; obtain ⟨Ao49, co49, eo49⟩ := Kd.V_slice HO178.out; subst eo49) | (go_at_call 31; (repeat rw [i64_w]); (with_reducible refine (spec_l1Max.calls (rd l0_1 0) (wrap64 (-(rd l0_1 0))) t180 _ A28.out).mono ?_); rintro e w' ⟨rfl, ⟨nd, rfl⟩⟩; (try first | exact ⟨rfl, _, World.drewN_drewN _ _ _⟩ | exact ⟨rfl, _, Eq.trans (World.drewN_drewN _ _ _) (congrArg (World.drewN _) (Nat.add_assoc _ _ _))⟩); have p181 : 0 ≤ (0 : Int) := (by omega); have q181 : 0 < (t173.length : Int) := of_decide_eq_true (by first | (with_reducible assumption) | assumption); obtain ⟨ad181, e181, hx181_0⟩ := Kd.at_int (Kd.V_reads' HO175.out).2.2 0 p181 q181; cases e181; have qi181 : (0 < t173.length) = True := eq_true (by omega); (try rw [show ((0 : Int)).toNat = 0 from rfl] at hx181_0); (try rw [Addr.add_zero'] at hx181_0); have hn181_0 : ad181.block ≠ gb179 := Kd.own_blk (Kd.V_ne HO175.out BK179.out (by decide)); have hn181_1 : ad181.block ≠ gb179 := Kd.own_blk (Kd.V_ne HO175.out BK179.out (by decide)); replace hx181_0 := (cell_far (p := ⟨gb179, 0, none⟩) (by first | (rw [add_block]; exact hn181_0) | (show (Addr.add _ _).block ≠ _; rw [add_block]; exact hn181_0) | exact hn181_0) (.slice (some ad181) t173.length co44)).trans hx181_0; replace hx181_0 := (cell_far (p := ⟨gb179, 1, none⟩) (by first | (rw [add_block]; exact hn181_1) | (show (Addr.add _ _).block ≠ _; rw [add_block]; exact hn181_1) | exact hn181_1) (.slice Ao49 t176.length co49)).trans hx181_0; (try have hy181_0 := fun (n_ : Nat) => (show ((((w43.drewN n_).setCell ⟨gb179, 0, none⟩ (.slice (some ad181) t173.length co44)).setCell ⟨gb179, 1, none⟩ (.slice Ao49 t176.length co49))).cell? _ = some _ from hx181_0)); clear hn181_0; clear hn181_1; replace p181 := eq_true p181; replace q181 := eq_true q181) | (go_at_call 30; (repeat rw [i64_w]); (with_reducible refine (spec_l1Min.calls t180 (rd t173 0) t182 _ A30.out).mono ?_); rintro e w' ⟨rfl, ⟨nd, rfl⟩⟩; (try first | exact ⟨rfl, _, World.drewN_drewN _ _ _⟩ | exact ⟨rfl, _, Eq.trans (World.drewN_drewN _ _ _) (congrArg (World.drewN _) (Nat.add_assoc _ _ _))⟩)) | (go_at_call 32; (repeat rw [i64_w]); (with_reducible refine (spec_l3Rows.calls kj2 _ _ t173 _ _ t176 t183 _ ?side1 ?side2 ?side3 ?side4 A31.out).mono ?_); (case side1 => refine (Kd.V_reads' (e := 3) (base := w.heap.size) (ok := fun k_ => ((k_ ≠ gb167 ∧ (k_ ≠ gb168 ∧ k_ ≠ gb169)) ∧ k_ ≠ gb179)) (n := t173.length) (c := co44) ?_).2.2; exact (by (with_reducible repeat (first | apply Kd.V_alloc | apply Kd.V_drewN | apply Kd.V_drew)); exact (Kd.V_mono (Kd.V_far (p := ⟨gb179, 1, none⟩) (Kd.V_far (p := ⟨gb179, 0, none⟩) (Kd.V_mono HO175.out (fun k_ hk => (⟨hk, hk.2⟩ : _ ∧ k_ ≠ gb179))) (fun _ hk => hk.2) (.slice (some ad181) t173.length co44)) (fun _ hk => hk.2) (.slice Ao49 t176.length co49)) (fun _ h_ => h_.1)))); (case side2 => exact (Kd.V_reads' HO175.out).2.1); (case side3 => refine (Kd.V_reads' (e := 3) (base := w.heap.size) (ok := fun k_ => ((k_ ≠ gb167 ∧ (k_ ≠ gb168 ∧ k_ ≠ gb169)) ∧ k_ ≠ gb179)) (n := t176.length) (c := co49) ?_).2.2; exact (by (with_reducible repeat (first | apply Kd.V_alloc | apply Kd.V_drewN | apply Kd.V_drew)); exact (Kd.V_mono (Kd.V_far (p := ⟨gb179, 1, none⟩) (Kd.V_far (p := ⟨gb179, 0, none⟩) (Kd.V_mono HO178.out (fun k_ hk => (⟨hk, hk.2⟩ : _ ∧ k_ ≠ gb179))) (fun _ hk => hk.2) (.slice (some ad181) t173.length co44)) (fun _ hk => hk.2) (.slice Ao49 t176.length co49)) (fun _ h_ => h_.1)))); (case side4 => exact (Kd.V_reads' HO178.out).2.1); rintro e w50 ⟨v184, rfl, ho0, hb⟩; replace HO175 := Aside0.mk (Kd.V_elder' (by (with_reducible repeat (first | apply Kd.V_alloc | apply Kd.V_drewN | apply Kd.V_drew)); exact (Kd.V_mono (Kd.V_far (p := ⟨gb179, 1, none⟩) (Kd.V_far (p := ⟨gb179, 0, none⟩) (Kd.V_mono HO175.out (fun k_ hk => (⟨hk, hk.2⟩ : _ ∧ k_ ≠ gb179))) (fun _ hk => hk.2) (.slice (some ad181) t173.length co44)) (fun _ hk => hk.2) (.slice Ao49 t176.length co49)) (fun _ h_ => h_.1))) (Kd.S_base ho0) hb); replace HO178 := Aside0.mk (Kd.V_elder' (by (with_reducible repeat (first | apply Kd.V_alloc | apply Kd.V_drewN | apply Kd.V_drew)); exact (Kd.V_mono (Kd.V_far (p := ⟨gb179, 1, none⟩) (Kd.V_far (p := ⟨gb179, 0, none⟩) (Kd.V_mono HO178.out (fun k_ hk => (⟨hk, hk.2⟩ : _ ∧ k_ ≠ gb179))) (fun _ hk => hk.2) (.slice (some ad181) t173.length co44)) (fun _ hk => hk.2) (.slice Ao49 t176.length co49)) (fun _ h_ => h_.1))) (Kd.S_base ho0) hb); have HO185 := Aside0.mk (Kd.S_lower (Kd.S_newB (Kd.S_newB (Kd.S_newB (Kd.S_newB ho0 (g := gb167) (o := .cells #[.slice A0_0 l0_0.length c0_0, .slice (some ad172) l0_1.length c0_1] 26 (0, 0)) (by (with_reducible repeat (first | refine blk_drewN ?_ _ | refine blk_drew ?_ | refine blk_alloc ?_ _)); refine blk_far ?_ NB167_179.out _; (with_reducible repeat (first | refine blk_drewN ?_ _ | refine blk_drew ?_ | refine blk_alloc ?_ _)); refine blk_far ?_ NB167_179.out _; (with_reducible repeat (first | refine blk_drewN ?_ _ | refine blk_drew ?_ | refine blk_alloc ?_ _)); exact BK167.out)) (g := gb168) (o := .cells #[.slice A1_0 l1_0.length c1_0, .slice A1_1 l1_1.length c1_1] 26 (0, 0)) (by (with_reducible repeat (first | refine blk_drewN ?_ _ | refine blk_drew ?_ | refine blk_alloc ?_ _)); refine blk_far ?_ NB168_179.out _; (with_reducible repeat (first | refine blk_drewN ?_ _ | refine blk_drew ?_ | refine blk_alloc ?_ _)); refine blk_far ?_ NB168_179.out _; (with_reducible repeat (first | refine blk_drewN ?_ _ | refine blk_drew ?_ | refine blk_alloc ?_ _)); exact BK168.out)) (g := gb169) (o := .cells #[.slice none 0 0, .slice none 0 0] 26 (0, 0)) (by (with_reducible repeat (first | refine blk_drewN ?_ _ | refine blk_drew ?_ | refine blk_alloc ?_ _)); refine blk_far ?_ NB169_179.out _; (with_reducible repeat (first | refine blk_drewN ?_ _ | refine blk_drew ?_ | refine blk_alloc ?_ _)); refine blk_far ?_ NB169_179.out _; (with_reducible repeat (first | refine blk_drewN ?_ _ | refine blk_drew ?_ | refine blk_alloc ?_ _)); exact BK169.out)) (g := gb179) (o := .cells #[.slice (some ad181) t173.length co44, .slice Ao49 t176.length co49] 26 (0, 0)) (by (with_reducible repeat (first | refine blk_drewN ?_ _ | refine blk_drew ?_ | refine blk_alloc ?_ _)); refine blk_put (cs := #[.slice (some ad181) t173.length co44, .slice none 0 0]) ?_ 1 _ rfl; (with_reducible repeat (first | refine blk_drewN ?_ _ | refine blk_drew ?_ | refine blk_alloc ?_ _)); refine blk_put (cs := #[.slice none 0 0, .slice none 0 0]) ?_ 0 _ rfl; (with_reducible repeat (first | refine blk_drewN ?_ _ | refine blk_drew ?_ | refine blk_alloc ?_ _)); exact BK179.out)) (below_size (bS4 HB.out GE167.out GE168.out GE169.out GE179.out))); replace BK167 := Aside0.mk (blk_below (g := gb167) (o := .cells #[.slice A0_0 l0_0.length c0_0, .slice (some ad172) l0_1.length c0_1] 26 (0, 0)) (by (with_reducible repeat (first | refine blk_drewN ?_ _ | refine blk_drew ?_ | refine blk_alloc ?_ _)); refine blk_far ?_ NB167_179.out _; (with_reducible repeat (first | refine blk_drewN ?_ _ | refine blk_drew ?_ | refine blk_alloc ?_ _)); refine blk_far ?_ NB167_179.out _; (with_reducible repeat (first | refine blk_drewN ?_ _ | refine blk_drew ?_ | refine blk_alloc ?_ _)); exact BK167.out) hb); replace BK168 := Aside0.mk (blk_below (g := gb168) (o := .cells #[.slice A1_0 l1_0.length c1_0, .slice A1_1 l1_1.length c1_1] 26 (0, 0)) (by (with_reducible repeat (first | refine blk_drewN ?_ _ | refine blk_drew ?_ | refine blk_alloc ?_ _)); refine blk_far ?_ NB168_179.out _; (with_reducible repeat (first | refine blk_drewN ?_ _ | refine blk_drew ?_ | refine blk_alloc ?_ _)); refine blk_far ?_ NB168_179.out _; (with_reducible repeat (first | refine blk_drewN ?_ _ | refine blk_drew ?_ | refine blk_alloc ?_ _)); exact BK168.out) hb); replace BK169 := Aside0.mk (blk_below (g := gb169) (o := .cells #[.slice none 0 0, .slice none 0 0] 26 (0, 0)) (by (with_reducible repeat (first | refine blk_drewN ?_ _ | refine blk_drew ?_ | refine blk_alloc ?_ _)); refine blk_far ?_ NB169_179.out _; (with_reducible repeat (first | refine blk_drewN ?_ _ | refine blk_drew ?_ | refine blk_alloc ?_ _)); refine blk_far ?_ NB169_179.out _; (with_reducible repeat (first | refine blk_drewN ?_ _ | refine blk_drew ?_ | refine blk_alloc ?_ _)); exact BK169.out) hb); replace BK179 := Aside0.mk (blk_below (g := gb179) (o := .cells #[.slice (some ad181) t173.length co44, .slice Ao49 t176.length co49] 26 (0, 0)) (by (with_reducible repeat (first | refine blk_drewN ?_ _ | refine blk_drew ?_ | refine blk_alloc ?_ _)); refine blk_put (cs := #[.slice (some ad181) t173.length co44, .slice none 0 0]) ?_ 1 _ rfl; (with_reducible repeat (first | refine blk_drewN ?_ _ | refine blk_drew ?_ | refine blk_alloc ?_ _)); refine blk_put (cs := #[.slice none 0 0, .slice none 0 0]) ?_ 0 _ rfl; (with_reducible repeat (first | refine blk_drewN ?_ _ | refine blk_drew ?_ | refine blk_alloc ?_ _)); exact BK179.out) hb); replace HB := Aside0.mk (below_step (bS4 HB.out GE167.out GE168.out GE169.out GE179.out) hb); (try clear hb); (try clear hb2); (try clear hk); (try clear hi); (try clear ho0); obtain ⟨Ao51, co51, eo51⟩ := Kd.S_slice HO185.out; subst eo51; have n_ := Aside0.mk (Kd.S_mono (ok' := (fun k_ => k_ ≠ gb167 ∧ k_ ≠ gb168 ∧ k_ ≠ gb169 ∧ k_ ≠ gb179)) HO185.out (fun k_ hk => ⟨hk.1.1.1.2, ⟨hk.1.1.2, ⟨hk.1.2, hk.2⟩⟩⟩)); clear HO185; have HO185 := n_; clear n_; have q52 : (t182 : Int) ≤ ((t183.length : Int) : Int) := of_decide_eq_true (by first | (with_reducible assumption) | assumption); obtain ⟨i052, hi052, _, hsz52, _⟩ := info_parts info26; have hcut52 := cut_from (P := Try.prog) 45 26 .i64 Try.underlying45 hi052 2 hsz52 Ao51 t183.length co51 t182 (of_decide_eq_true (by first | (with_reducible assumption) | assumption)) q52; have hr52 := Kd.Q_drop (k := (t182 : Int).toNat) (Kd.Q_of_R (Kd.S_R HO185.out)) (by omega); obtain ⟨A52, hA52⟩ : ∃ A1, A1 = (if co51 = (t182 : Int).toNat then Ao51 else (Ao51 : Option Addr).map (·.add ((t182 : Int).toNat * 2))) := ⟨_, rfl⟩; obtain ⟨c52, hc52⟩ : ∃ c1, c1 = co51 - (t182 : Int).toNat := ⟨_, rfl⟩; have hy52 : y186.length = t183.length - (t182 : Int).toNat := (by rw [Ny186.out, List.length_drop]); rw [← Ny186.out] at hr52; rw [← hy52, ← hA52, ← hc52] at hcut52; replace hr52 : Kd.Q k26 26 w50 w.heap.size (fun k_ => k_ ≠ gb167 ∧ k_ ≠ gb168 ∧ k_ ≠ gb169 ∧ k_ ≠ gb179) (.slice A52 y186.length c52) y186 := (by rw [hA52, hc52, hy52]; exact hr52); have HE52 : Aside0 ((Value.slice A52 y186.length c52).ownBlock = (.slice Ao51 t183.length co51 : Value).ownBlock) := ⟨by rw [hA52]; split <;> (cases (Ao51 : Option Addr) <;> first | rfl | (simp [Value.ownBlock, add_block]; done))⟩; clear hy52 hi052 hsz52 HO185 hA52 hc52; have HO188 := Aside0.mk hr52; clear hr52; replace q52 := eq_true q52; have n_ := Aside0.mk (Kd.V_mono (ok' := fun k_ => (((k_ ≠ gb167 ∧ (k_ ≠ gb168 ∧ k_ ≠ gb169)) ∧ k_ ≠ gb179) ∧ some k_ ≠ (.slice A52 y186.length c52 : Value).ownBlock)) HO175.out (fun k_ hk => ⟨⟨⟨hk.1.1.1, ⟨hk.1.1.2.1, hk.1.1.2.2⟩⟩, hk.1.2⟩, (by rw [HE52.out]; exact hk.2)⟩)); clear HO175; have HO175 := n_; clear n_; have n_ := Aside0.mk (Kd.V_mono (ok' := fun k_ => (((k_ ≠ gb167 ∧ (k_ ≠ gb168 ∧ k_ ≠ gb169)) ∧ k_ ≠ gb179) ∧ some k_ ≠ (.slice A52 y186.length c52 : Value).ownBlock)) HO178.out (fun k_ hk => ⟨⟨⟨hk.1.1.1, ⟨hk.1.1.2.1, hk.1.1.2.2⟩⟩, hk.1.2⟩, (by rw [HE52.out]; exact hk.2)⟩)); clear HO178; have HO178 := n_; clear n_; have hcz53_0 : w50.cell? ⟨gb179, 0, none⟩ = some (.slice (some ad181) t173.length co44) := (blk_cell BK179.out 0).trans rfl; have hcz53_1 : w50.cell? ⟨gb179, 1, none⟩ = some (.slice Ao49 t176.length co49) := (blk_cell BK179.out 1).trans rfl; have hfz53_0 := blk_frozen BK179.out 0; have hfz53_1 := blk_frozen BK179.out 1; have q54 : (1 : Int) ≤ ((t173.length : Int) : Int) := of_decide_eq_true (by first | (with_reducible assumption) | assumption); obtain ⟨i054, hi054, _, hsz54, _⟩ := info_parts info3; have hroom54 : t173.length ≤ co44 := (Kd.V_reads' HO175.out).2.1; have hC54 : Kd.F (Kd.int .i64) _ _ (some ad181) t173.length t173 := (Kd.V_at (base := w.heap.size) HO175.out).2.2; have hcut54 := cut_from (P := Try.prog) 22 3 .i64 Try.underlying22 hi054 1 hsz54 (some ad181) t173.length co44 1 (by omega) q54; have hr54 := Kd.F_cut (m := (1 : Int).toNat) (c := co44) hC54 (by omega) hroom54; obtain ⟨A54, hA54⟩ : ∃ A1, A1 = (if co44 = (1 : Int).toNat then (some ad181) else ((some ad181) : Option Addr).map (·.add ((1 : Int).toNat * 1))) := ⟨_, rfl⟩; obtain ⟨c54, hc54⟩ : ∃ c1, c1 = co44 - (1 : Int).toNat := ⟨_, rfl⟩; have hy54 : y189.length = t173.length - (1 : Int).toNat := (by rw [Ny189.out, List.length_drop] <;> omega); rw [show (t173).drop (1 : Int).toNat = y189 from Ny189.out.symm] at hr54; replace hr54 : Kd.F (Kd.int .i64) _ _ A54 y189.length y189 := (by rw [hA54]; exact hr54); rw [← hy54, ← hA54, ← hc54] at hcut54; have HO193 := Aside0.mk (show Kd.V (Kd.int .i64) 3 _ w.heap.size _ (.slice A54 y189.length c54) y189 from Kd.V_mk (by rw [hy54, hc54]; exact Nat.sub_le_sub_right hroom54 _) hr54); have HC193 := Aside0.mk (show y189.length ≤ c54 from by rw [hy54, hc54]; exact Nat.sub_le_sub_right hroom54 _); clear hr54 hC54 hroom54 hi054 hsz54 hc54; have KY54 := Aside0.mk hy54; have KA54 := Aside0.mk hA54; clear hy54 hA54; replace q54 := eq_true q54) | (go_at_call 33; (repeat rw [i64_w]); (with_reducible refine (spec_l5Rows.calls kj2 _ _ y186 _ _ y189 t194 t197 _ ?side1 ?side2 ?side3 ?side4 A36.out).mono ?_); (case side1 => exact cU (Kd.Q_reads' HO188.out).2.2); (case side2 => exact (Kd.Q_reads' HO188.out).2.1); (case side3 => exact cU (Kd.V_reads' HO193.out).2.2); (case side4 => exact (Kd.V_reads' HO193.out).2.1); rintro e w55 ⟨v195, v198, rfl, ho0, ho1, hb⟩; replace HO175 := Aside0.mk (Kd.V_mono (Kd.V_told (Kd.V_told (Kd.V_old (VU HO175.out) hb) (Kd.R_base ho0)) (Kd.R_base ho1)) (fun _ h_ => h_.1)); replace HO178 := Aside0.mk (Kd.V_mono (Kd.V_told (Kd.V_told (Kd.V_old (VU HO178.out) hb) (Kd.R_base ho0)) (Kd.R_base ho1)) (fun _ h_ => h_.1)); replace HO188 := Aside0.mk (Kd.Q_mono (Kd.Q_told (Kd.Q_told (Kd.Q_old (by (with_reducible repeat (first | apply Kd.Q_alloc | apply Kd.Q_drewN | apply Kd.Q_drew)); exact HO188.out) hb) (Kd.R_base ho0)) (Kd.R_base ho1)) (fun _ h_ => h_.1)); replace HO193 := Aside0.mk (Kd.V_mono (Kd.V_told (Kd.V_told (Kd.V_old (VU HO193.out) hb) (Kd.R_base ho0)) (Kd.R_base ho1)) (fun _ h_ => h_.1)); have HO196 := Aside0.mk (Kd.R_lower ho0 (below_size (bS4 HB.out GE167.out GE168.out GE169.out GE179.out))); have HO199 := Aside0.mk (Kd.R_lower ho1 (below_size (bS4 HB.out GE167.out GE168.out GE169.out GE179.out))); replace BK167 := Aside0.mk (blk_below (g := gb167) (o := .cells #[.slice A0_0 l0_0.length c0_0, .slice (some ad172) l0_1.length c0_1] 26 (0, 0)) (kU BK167.out) hb); replace BK168 := Aside0.mk (blk_below (g := gb168) (o := .cells #[.slice A1_0 l1_0.length c1_0, .slice A1_1 l1_1.length c1_1] 26 (0, 0)) (kU BK168.out) hb); replace BK169 := Aside0.mk (blk_below (g := gb169) (o := .cells #[.slice none 0 0, .slice none 0 0] 26 (0, 0)) (kU BK169.out) hb); replace BK179 := Aside0.mk (blk_below (g := gb179) (o := .cells #[.slice (some ad181) t173.length co44, .slice Ao49 t176.length co49] 26 (0, 0)) (kU BK179.out) hb); replace HB := Aside0.mk (below_step (bS4 HB.out GE167.out GE168.out GE169.out GE179.out) hb); (try clear hb); (try clear hb2); (try clear hk); (try clear hi); (try clear ho0); (try clear ho1); obtain ⟨Ao56, co56, eo56⟩ := Kd.R_slice HO196.out; subst eo56; have hcz57_0 : w55.cell? ⟨gb169, 0, none⟩ = some (.slice none 0 0) := (blk_cell BK169.out 0).trans rfl; have hcz57_1 : w55.cell? ⟨gb169, 1, none⟩ = some (.slice none 0 0) := (blk_cell BK169.out 1).trans rfl; have hfz57_0 := blk_frozen BK169.out 0; have hfz57_1 := blk_frozen BK169.out 1; obtain ⟨Ao58, co58, eo58⟩ := Kd.R_slice HO199.out; subst eo58)))
           refine bodyPost_ret (results_ct rfl _ _ gb169 26 #[.slice Ao56 t194.length co56, .slice Ao58 t197.length co58] (0, 0) _ rfl (by (with_reducible repeat (first | refine blk_drewN ?_ _ | refine blk_drew ?_ | refine blk_alloc ?_ _)); refine blk_put (cs := #[.slice Ao56 t194.length co56, .slice none 0 0]) ?_ 1 _ rfl; (with_reducible repeat (first | refine blk_drewN ?_ _ | refine blk_drew ?_ | refine blk_alloc ?_ _)); refine blk_put (cs := #[.slice none 0 0, .slice none 0 0]) ?_ 0 _ rfl; (with_reducible repeat (first | refine blk_drewN ?_ _ | refine blk_drew ?_ | refine blk_alloc ?_ _)); exact BK169.out) Try.underlying26 rfl (by kernel_rfl)) rfl ?_
           exact ⟨_, _, by first | rfl | (simp [errW_none, errW_some] <;> rfl) | (simp [*, errW_none, errW_some] <;> rfl), by (with_reducible repeat (first | apply Kd.R_alloc | apply Kd.R_drewN | apply Kd.R_drew)); exact Kd.R_mono (Kd.R_far (p := ⟨gb169, 1, none⟩) (Kd.R_far (p := ⟨gb169, 0, none⟩) (Kd.R_types HO196.out BK169.out (by decide)) (fun _ hk => hk.2) (.slice Ao56 t194.length co56)) (fun _ hk => hk.2) (.slice Ao58 t197.length co58)) (fun _ hk => hk.1), by (with_reducible repeat (first | apply Kd.R_alloc | apply Kd.R_drewN | apply Kd.R_drew)); exact Kd.R_mono (Kd.R_far (p := ⟨gb169, 1, none⟩) (Kd.R_far (p := ⟨gb169, 0, none⟩) (Kd.R_types HO199.out BK169.out (by decide)) (fun _ hk => hk.2) (.slice Ao56 t194.length co56)) (fun _ hk => hk.2) (.slice Ao58 t197.length co58)) (fun _ hk => hk.1), by repeat (first | (with_reducible first | exact HB.out | apply below_alloc | apply pw_below_drewN | apply below_drew1 | refine below_set ?_ GE167.out | refine below_set ?_ GE168.out | refine below_set ?_ GE169.out | refine below_set ?_ GE179.out) | exact HB.out)⟩
          ·
           rw [if_neg c35] at H
           exact absurd H (by simp)
         ·
          rw [if_neg c34] at H
          exact absurd H (by simp)
        ·
         rw [if_neg c33] at H
         exact absurd H (by simp)
       ·
        rw [if_neg c32] at H
        have c32b0 : decide (0 ≤ (rd l0_1 0)) = false := decide_eq_false c32
        clear c32
        obtain ⟨ji59, hji59⟩ : ∃ j_ : Int, (wrap64 ((t183.length : Int) - t182)) = j_ := ⟨_, rfl⟩
        replace H : (if 0 ≤ (ji59) then (if (ji59) ≤ (t183.length : Int) then (if 1 ≤ (t173.length : Int) then ((spec_l5Rows.f kj2 (t183.take ((ji59) : Int).toNat) (t173.drop 1)).bind fun bt208 => (some (bt208.1, bt208.2, 0))) else (none)) else (none)) else (none)) = some (r1, r2, r3) := by first | (rw [hji59] at H; exact H) | (simp only [hji59] at H ⊢; exact H)
        (try rw [hji59] at A27)
        (try rw [hji59] at A28)
        (try rw [hji59] at A30)
        (try rw [hji59] at A31)
        have hji59w : (IntKind.i64.wrap ((t183.length : Int) - t182)) = ji59 := (i64_w _).trans hji59
        by_cases c60 : 0 ≤ (ji59)
        ·
         rw [if_pos c60] at H
         have c60b0 := eq_true c60
         have c60b1 : decide (0 ≤ (ji59)) = true := decide_eq_true c60
         clear c60
         by_cases c61 : (ji59) ≤ (t183.length : Int)
         ·
          rw [if_pos c61] at H
          have c61b0 := eq_true c61
          have c61b1 : decide ((ji59) ≤ (t183.length : Int)) = true := decide_eq_true c61
          clear c61
          obtain ⟨y200, hy200⟩ : ∃ y_ : List (S26), y_ = (t183.take ((ji59) : Int).toNat) := ⟨_, rfl⟩
          replace H : (if 1 ≤ (t173.length : Int) then ((spec_l5Rows.f kj2 y200 (t173.drop 1)).bind fun bt208 => (some (bt208.1, bt208.2, 0))) else (none)) = some (r1, r2, r3) := by first | (rw [hy200]; with_reducible exact H) | (have H2_ := (Option.bind_some _ _).symm.trans H; rw [hy200]; with_reducible exact H2_) | (have H2_ := (Option.bind_some _ _).symm.trans H; with_reducible exact H2_) | with_reducible exact H | (rw [hy200]; exact H) | exact H
          have Ny200 := Aside0.mk hy200
          clear hy200
          by_cases c62 : 1 ≤ (t173.length : Int)
          ·
           rw [if_pos c62] at H
           have c62b0 := eq_true c62
           have c62b1 : decide (1 ≤ (t173.length : Int)) = true := decide_eq_true c62
           clear c62
           obtain ⟨y203, hy203⟩ : ∃ y_ : List Int, y_ = (t173.drop 1) := ⟨_, rfl⟩
           replace H : ((spec_l5Rows.f kj2 y200 y203).bind fun bt208 => (some (bt208.1, bt208.2, 0))) = some (r1, r2, r3) := by first | (rw [hy203]; with_reducible exact H) | (have H2_ := (Option.bind_some _ _).symm.trans H; rw [hy203]; with_reducible exact H2_) | (have H2_ := (Option.bind_some _ _).symm.trans H; with_reducible exact H2_) | with_reducible exact H | (rw [hy203]; exact H) | exact H
           have Ny203 := Aside0.mk hy203
           clear hy203
           replace H := Option.bind_eq_some_iff.mp H
           obtain ⟨⟨t208, t211⟩, A630, H⟩ := H
           replace H : (some (t208, t211, 0)) = some (r1, r2, r3) := H
           have A63 := Aside0.mk A630
           clear A630
           simp only [Option.some.injEq, Prod.mk.injEq] at H
           obtain ⟨rfl, rfl, rfl⟩ := H
           have hnb64 := NB167_168.out
           have hnc64 := NB168_167.out
           have hnb65 := NB167_169.out
           have hnc65 := NB169_167.out
           have hcz66_0 : wc.cell? ⟨gb167, 0, none⟩ = some (.slice A0_0 l0_0.length c0_0) := (blk_cell BK167.out 0).trans rfl
           have hcz66_1 : wc.cell? ⟨gb167, 1, none⟩ = some (.slice A0_1 l0_1.length c0_1) := (blk_cell BK167.out 1).trans rfl
           have hfz66_0 := blk_frozen BK167.out 0
           have hfz66_1 := blk_frozen BK167.out 1
           have p172 : 0 ≤ (0 : Int) := (by omega)
           have q172 : 0 < (l0_1.length : Int) := of_decide_eq_true (by first | (with_reducible assumption) | assumption)
           obtain ⟨ad172, e172, hx172_0⟩ := Kd.at_int HR0_1.out 0 p172 q172
           cases e172
           have qi172 : (0 < l0_1.length) = True := eq_true (by omega)
           (try rw [show ((0 : Int)).toNat = 0 from rfl] at hx172_0)
           (try rw [Addr.add_zero'] at hx172_0)
           replace hx172_0 := (HB.out.cell (World.block_lt_of_cell? w _ hx172_0)).trans hx172_0
           replace p172 := eq_true p172
           replace q172 := eq_true q172
           have hnb67 := NB168_169.out
           have hnc67 := NB169_168.out
           have hcz68_0 : wc.cell? ⟨gb168, 0, none⟩ = some (.slice A1_0 l1_0.length c1_0) := (blk_cell BK168.out 0).trans rfl
           have hcz68_1 : wc.cell? ⟨gb168, 1, none⟩ = some (.slice A1_1 l1_1.length c1_1) := (blk_cell BK168.out 1).trans rfl
           have hfz68_0 := blk_frozen BK168.out 0
           have hfz68_1 := blk_frozen BK168.out 1
           go_wp2_with (first | (go_at_call 29; (repeat rw [i64_w]); (with_reducible refine (spec_l5Vector.calls (fun k_ => k_ < w.heap.size) _ _ l1_0 (fun k_ => k_ < w.heap.size) _ _ l1_1 t173 t176 _ ?side1 ?side2 A27.out).mono ?_); (case side1 => exact Kd.V_mk HC1_0.out (Kd.F_below (Kd.C_F (Kd.heap_int .i64) HR1_0.out) (bS3 HB.out GE167.out GE168.out GE169.out))); (case side2 => exact Kd.V_mk HC1_1.out (Kd.F_below (Kd.C_F (Kd.heap_int .i64) HR1_1.out) (bS3 HB.out GE167.out GE168.out GE169.out))); rintro e w69 ⟨v174, v177, rfl, ho0, ho1, hb⟩; have HO175 := Aside0.mk (Kd.V_lower (Kd.V_mono (ok' := fun k_ => k_ ≠ gb167 ∧ k_ ≠ gb168 ∧ k_ ≠ gb169) ho0 (fun k_ hk_ => ⟨Or.elim hk_ (fun hs_ => Or.elim hs_ (fun hs_ => fun e_ => Nat.not_le.2 hs_ (by rw [e_]; exact GW167.out)) (fun hs_ => fun e_ => Nat.not_le.2 hs_ (by rw [e_]; exact GW167.out))) (fun hn_ => (Kd.freshB (g := gb167) (o := .cells #[.slice A0_0 l0_0.length c0_0, .slice (some ad172) l0_1.length c0_1] 26 (0, 0)) (kU BK167.out) k_ hn_)), Or.elim hk_ (fun hs_ => Or.elim hs_ (fun hs_ => fun e_ => Nat.not_le.2 hs_ (by rw [e_]; exact GW168.out)) (fun hs_ => fun e_ => Nat.not_le.2 hs_ (by rw [e_]; exact GW168.out))) (fun hn_ => (Kd.freshB (g := gb168) (o := .cells #[.slice A1_0 l1_0.length c1_0, .slice A1_1 l1_1.length c1_1] 26 (0, 0)) (kU BK168.out) k_ hn_)), Or.elim hk_ (fun hs_ => Or.elim hs_ (fun hs_ => fun e_ => Nat.not_le.2 hs_ (by rw [e_]; exact GW169.out)) (fun hs_ => fun e_ => Nat.not_le.2 hs_ (by rw [e_]; exact GW169.out))) (fun hn_ => (Kd.freshB (g := gb169) (o := .cells #[.slice none 0 0, .slice none 0 0] 26 (0, 0)) (kU BK169.out) k_ hn_))⟩)) (below_size (bS3 HB.out GE167.out GE168.out GE169.out))); have HO178 := Aside0.mk (Kd.V_lower (Kd.V_mono (ok' := fun k_ => k_ ≠ gb167 ∧ k_ ≠ gb168 ∧ k_ ≠ gb169) ho1 (fun k_ hk_ => ⟨Or.elim hk_ (fun hs_ => Or.elim hs_ (fun hs_ => fun e_ => Nat.not_le.2 hs_ (by rw [e_]; exact GW167.out)) (fun hs_ => fun e_ => Nat.not_le.2 hs_ (by rw [e_]; exact GW167.out))) (fun hn_ => (Kd.freshB (g := gb167) (o := .cells #[.slice A0_0 l0_0.length c0_0, .slice (some ad172) l0_1.length c0_1] 26 (0, 0)) (kU BK167.out) k_ hn_)), Or.elim hk_ (fun hs_ => Or.elim hs_ (fun hs_ => fun e_ => Nat.not_le.2 hs_ (by rw [e_]; exact GW168.out)) (fun hs_ => fun e_ => Nat.not_le.2 hs_ (by rw [e_]; exact GW168.out))) (fun hn_ => (Kd.freshB (g := gb168) (o := .cells #[.slice A1_0 l1_0.length c1_0, .slice A1_1 l1_1.length c1_1] 26 (0, 0)) (kU BK168.out) k_ hn_)), Or.elim hk_ (fun hs_ => Or.elim hs_ (fun hs_ => fun e_ => Nat.not_le.2 hs_ (by rw [e_]; exact GW169.out)) (fun hs_ => fun e_ => Nat.not_le.2 hs_ (by rw [e_]; exact GW169.out))) (fun hn_ => (Kd.freshB (g := gb169) (o := .cells #[.slice none 0 0, .slice none 0 0] 26 (0, 0)) (kU BK169.out) k_ hn_))⟩)) (below_size (bS3 HB.out GE167.out GE168.out GE169.out))); replace BK167 := Aside0.mk (blk_below (g := gb167) (o := .cells #[.slice A0_0 l0_0.length c0_0, .slice (some ad172) l0_1.length c0_1] 26 (0, 0)) (kU BK167.out) hb); replace BK168 := Aside0.mk (blk_below (g := gb168) (o := .cells #[.slice A1_0 l1_0.length c1_0, .slice A1_1 l1_1.length c1_1] 26 (0, 0)) (kU BK168.out) hb); replace BK169 := Aside0.mk (blk_below (g := gb169) (o := .cells #[.slice none 0 0, .slice none 0 0] 26 (0, 0)) (kU BK169.out) hb); replace HB := Aside0.mk (below_step (bS3 HB.out GE167.out GE168.out GE169.out) hb); (try clear hb); (try clear hb2); (try clear hk); (try clear hi); (try clear ho0); (try clear ho1)) | ((with_reducible refine gate_dst (N := 7) rfl ?_); refine box_event ?hg (N := 7) ?hd (cs := #[.slice none 0 0, .slice none 0 0]) (t := 26) ?hr ?_; (case hd => rfl); (case hg => rfl); (case hr => first | (go_simp; done) | (go_simp; rfl)); intro gb179 hg w70 hbox hb; replace HO175 := Aside0.mk (Kd.V_below (Kd.V_elderB (VU HO175.out) gb179 (Nat.le_of_eq hg.symm)) hb); replace HO178 := Aside0.mk (Kd.V_below (Kd.V_elderB (VU HO178.out) gb179 (Nat.le_of_eq hg.symm)) hb); have BK179 := Aside0.mk (hbox); have GW179 := Aside0.mk ((by rw [hg]; exact (below_size (bS3 HB.out GE167.out GE168.out GE169.out)) : w.heap.size ≤ gb179)); have GE179 := Aside0.mk ((by rw [hg]; exact (below_size (bS3 HB.out GE167.out GE168.out GE169.out)) : w.heap.size ≤ gb179)); replace HB := Aside0.mk (below_step (bS3 HB.out GE167.out GE168.out GE169.out) hb); have NB167_179 := Aside0.mk ((by rw [hg]; exact Nat.ne_of_lt (blk_lt (g := gb167) (o := .cells #[.slice A0_0 l0_0.length c0_0, .slice (some ad172) l0_1.length c0_1] 26 (0, 0)) (kU BK167.out)) : gb167 ≠ gb179)); have NB179_167 := Aside0.mk ((by rw [hg]; exact Nat.ne_of_gt (blk_lt (g := gb167) (o := .cells #[.slice A0_0 l0_0.length c0_0, .slice (some ad172) l0_1.length c0_1] 26 (0, 0)) (kU BK167.out)) : gb179 ≠ gb167)); replace BK167 := Aside0.mk (blk_below (g := gb167) (o := .cells #[.slice A0_0 l0_0.length c0_0, .slice (some ad172) l0_1.length c0_1] 26 (0, 0)) (kU BK167.out) hb); have NB168_179 := Aside0.mk ((by rw [hg]; exact Nat.ne_of_lt (blk_lt (g := gb168) (o := .cells #[.slice A1_0 l1_0.length c1_0, .slice A1_1 l1_1.length c1_1] 26 (0, 0)) (kU BK168.out)) : gb168 ≠ gb179)); have NB179_168 := Aside0.mk ((by rw [hg]; exact Nat.ne_of_gt (blk_lt (g := gb168) (o := .cells #[.slice A1_0 l1_0.length c1_0, .slice A1_1 l1_1.length c1_1] 26 (0, 0)) (kU BK168.out)) : gb179 ≠ gb168)); replace BK168 := Aside0.mk (blk_below (g := gb168) (o := .cells #[.slice A1_0 l1_0.length c1_0, .slice A1_1 l1_1.length c1_1] 26 (0, 0)) (kU BK168.out) hb); have NB169_179 := Aside0.mk ((by rw [hg]; exact Nat.ne_of_lt (blk_lt (g := gb169) (o := .cells #[.slice none 0 0, .slice none 0 0] 26 (0, 0)) (kU BK169.out)) : gb169 ≠ gb179)); have NB179_169 := Aside0.mk ((by rw [hg]; exact Nat.ne_of_gt (blk_lt (g := gb169) (o := .cells #[.slice none 0 0, .slice none 0 0] 26 (0, 0)) (kU BK169.out)) : gb179 ≠ gb169)); replace BK169 := Aside0.mk (blk_below (g := gb169) (o := .cells #[.slice none 0 0, .slice none 0 0] 26 (0, 0)) (kU BK169.out) hb); clear hb hbox hg; obtain ⟨Ao71, co71, eo71⟩ := Kd.V_slice HO175.out; subst eo71; have hnb72 := NB179_167.out; have hnc72 := NB167_179.out; have hnb73 := NB179_168.out; have hnc73 := NB168_179.out; have hnb74 := NB179_169.out; have hnc74 := NB169_179.out; have hcz75_0 : w70.cell? ⟨gb179, 0, none⟩ = some (.slice none 0 0) := (blk_cell BK179.out 0).trans rfl; have hcz75_1 : w70.cell? ⟨gb179, 1, none⟩ = some (.slice none 0 0) := (blk_cell BK179.out 1).trans rfl; have hfz75_0 := blk_frozen BK179.out 0; have hfz75_1 := blk_frozen BK179.out 1; obtain ⟨Ao76, co76, eo76⟩ := Kd.V_slice HO178.out; subst eo76) | (go_at_call 31; (repeat rw [i64_w]); (with_reducible refine (spec_l1Max.calls (rd l0_1 0) (wrap64 (-(rd l0_1 0))) t180 _ A28.out).mono ?_); rintro e w' ⟨rfl, ⟨nd, rfl⟩⟩; (try first | exact ⟨rfl, _, World.drewN_drewN _ _ _⟩ | exact ⟨rfl, _, Eq.trans (World.drewN_drewN _ _ _) (congrArg (World.drewN _) (Nat.add_assoc _ _ _))⟩); have p181 : 0 ≤ (0 : Int) := (by omega); have q181 : 0 < (t173.length : Int) := of_decide_eq_true (by first | (with_reducible assumption) | assumption); obtain ⟨ad181, e181, hx181_0⟩ := Kd.at_int (Kd.V_reads' HO175.out).2.2 0 p181 q181; cases e181; have qi181 : (0 < t173.length) = True := eq_true (by omega); (try rw [show ((0 : Int)).toNat = 0 from rfl] at hx181_0); (try rw [Addr.add_zero'] at hx181_0); have hn181_0 : ad181.block ≠ gb179 := Kd.own_blk (Kd.V_ne HO175.out BK179.out (by decide)); have hn181_1 : ad181.block ≠ gb179 := Kd.own_blk (Kd.V_ne HO175.out BK179.out (by decide)); replace hx181_0 := (cell_far (p := ⟨gb179, 0, none⟩) (by first | (rw [add_block]; exact hn181_0) | (show (Addr.add _ _).block ≠ _; rw [add_block]; exact hn181_0) | exact hn181_0) (.slice (some ad181) t173.length co71)).trans hx181_0; replace hx181_0 := (cell_far (p := ⟨gb179, 1, none⟩) (by first | (rw [add_block]; exact hn181_1) | (show (Addr.add _ _).block ≠ _; rw [add_block]; exact hn181_1) | exact hn181_1) (.slice Ao76 t176.length co76)).trans hx181_0; (try have hy181_0 := fun (n_ : Nat) => (show ((((w70.drewN n_).setCell ⟨gb179, 0, none⟩ (.slice (some ad181) t173.length co71)).setCell ⟨gb179, 1, none⟩ (.slice Ao76 t176.length co76))).cell? _ = some _ from hx181_0)); clear hn181_0; clear hn181_1; replace p181 := eq_true p181; replace q181 := eq_true q181) | (go_at_call 30; (repeat rw [i64_w]); (with_reducible refine (spec_l1Min.calls t180 (rd t173 0) t182 _ A30.out).mono ?_); rintro e w' ⟨rfl, ⟨nd, rfl⟩⟩; (try first | exact ⟨rfl, _, World.drewN_drewN _ _ _⟩ | exact ⟨rfl, _, Eq.trans (World.drewN_drewN _ _ _) (congrArg (World.drewN _) (Nat.add_assoc _ _ _))⟩)) | (go_at_call 32; (repeat rw [i64_w]); (with_reducible refine (spec_l3Rows.calls kj2 _ _ t173 _ _ t176 t183 _ ?side1 ?side2 ?side3 ?side4 A31.out).mono ?_); (case side1 => refine (Kd.V_reads' (e := 3) (base := w.heap.size) (ok := fun k_ => ((k_ ≠ gb167 ∧ (k_ ≠ gb168 ∧ k_ ≠ gb169)) ∧ k_ ≠ gb179)) (n := t173.length) (c := co71) ?_).2.2; exact (by (with_reducible repeat (first | apply Kd.V_alloc | apply Kd.V_drewN | apply Kd.V_drew)); exact (Kd.V_mono (Kd.V_far (p := ⟨gb179, 1, none⟩) (Kd.V_far (p := ⟨gb179, 0, none⟩) (Kd.V_mono HO175.out (fun k_ hk => (⟨hk, hk.2⟩ : _ ∧ k_ ≠ gb179))) (fun _ hk => hk.2) (.slice (some ad181) t173.length co71)) (fun _ hk => hk.2) (.slice Ao76 t176.length co76)) (fun _ h_ => h_.1)))); (case side2 => exact (Kd.V_reads' HO175.out).2.1); (case side3 => refine (Kd.V_reads' (e := 3) (base := w.heap.size) (ok := fun k_ => ((k_ ≠ gb167 ∧ (k_ ≠ gb168 ∧ k_ ≠ gb169)) ∧ k_ ≠ gb179)) (n := t176.length) (c := co76) ?_).2.2; exact (by (with_reducible repeat (first | apply Kd.V_alloc | apply Kd.V_drewN | apply Kd.V_drew)); exact (Kd.V_mono (Kd.V_far (p := ⟨gb179, 1, none⟩) (Kd.V_far (p := ⟨gb179, 0, none⟩) (Kd.V_mono HO178.out (fun k_ hk => (⟨hk, hk.2⟩ : _ ∧ k_ ≠ gb179))) (fun _ hk => hk.2) (.slice (some ad181) t173.length co71)) (fun _ hk => hk.2) (.slice Ao76 t176.length co76)) (fun _ h_ => h_.1)))); (case side4 => exact (Kd.V_reads' HO178.out).2.1); rintro e w77 ⟨v184, rfl, ho0, hb⟩; replace HO175 := Aside0.mk (Kd.V_elder' (by (with_reducible repeat (first | apply Kd.V_alloc | apply Kd.V_drewN | apply Kd.V_drew)); exact (Kd.V_mono (Kd.V_far (p := ⟨gb179, 1, none⟩) (Kd.V_far (p := ⟨gb179, 0, none⟩) (Kd.V_mono HO175.out (fun k_ hk => (⟨hk, hk.2⟩ : _ ∧ k_ ≠ gb179))) (fun _ hk => hk.2) (.slice (some ad181) t173.length co71)) (fun _ hk => hk.2) (.slice Ao76 t176.length co76)) (fun _ h_ => h_.1))) (Kd.S_base ho0) hb); replace HO178 := Aside0.mk (Kd.V_elder' (by (with_reducible repeat (first | apply Kd.V_alloc | apply Kd.V_drewN | apply Kd.V_drew)); exact (Kd.V_mono (Kd.V_far (p := ⟨gb179, 1, none⟩) (Kd.V_far (p := ⟨gb179, 0, none⟩) (Kd.V_mono HO178.out (fun k_ hk => (⟨hk, hk.2⟩ : _ ∧ k_ ≠ gb179))) (fun _ hk => hk.2) (.slice (some ad181) t173.length co71)) (fun _ hk => hk.2) (.slice Ao76 t176.length co76)) (fun _ h_ => h_.1))) (Kd.S_base ho0) hb); have HO185 := Aside0.mk (Kd.S_lower (Kd.S_newB (Kd.S_newB (Kd.S_newB (Kd.S_newB ho0 (g := gb167) (o := .cells #[.slice A0_0 l0_0.length c0_0, .slice (some ad172) l0_1.length c0_1] 26 (0, 0)) (by (with_reducible repeat (first | refine blk_drewN ?_ _ | refine blk_drew ?_ | refine blk_alloc ?_ _)); refine blk_far ?_ NB167_179.out _; (with_reducible repeat (first | refine blk_drewN ?_ _ | refine blk_drew ?_ | refine blk_alloc ?_ _)); refine blk_far ?_ NB167_179.out _; (with_reducible repeat (first | refine blk_drewN ?_ _ | refine blk_drew ?_ | refine blk_alloc ?_ _)); exact BK167.out)) (g := gb168) (o := .cells #[.slice A1_0 l1_0.length c1_0, .slice A1_1 l1_1.length c1_1] 26 (0, 0)) (by (with_reducible repeat (first | refine blk_drewN ?_ _ | refine blk_drew ?_ | refine blk_alloc ?_ _)); refine blk_far ?_ NB168_179.out _; (with_reducible repeat (first | refine blk_drewN ?_ _ | refine blk_drew ?_ | refine blk_alloc ?_ _)); refine blk_far ?_ NB168_179.out _; (with_reducible repeat (first | refine blk_drewN ?_ _ | refine blk_drew ?_ | refine blk_alloc ?_ _)); exact BK168.out)) (g := gb169) (o := .cells #[.slice none 0 0, .slice none 0 0] 26 (0, 0)) (by (with_reducible repeat (first | refine blk_drewN ?_ _ | refine blk_drew ?_ | refine blk_alloc ?_ _)); refine blk_far ?_ NB169_179.out _; (with_reducible repeat (first | refine blk_drewN ?_ _ | refine blk_drew ?_ | refine blk_alloc ?_ _)); refine blk_far ?_ NB169_179.out _; (with_reducible repeat (first | refine blk_drewN ?_ _ | refine blk_drew ?_ | refine blk_alloc ?_ _)); exact BK169.out)) (g := gb179) (o := .cells #[.slice (some ad181) t173.length co71, .slice Ao76 t176.length co76] 26 (0, 0)) (by (with_reducible repeat (first | refine blk_drewN ?_ _ | refine blk_drew ?_ | refine blk_alloc ?_ _)); refine blk_put (cs := #[.slice (some ad181) t173.length co71, .slice none 0 0]) ?_ 1 _ rfl; (with_reducible repeat (first | refine blk_drewN ?_ _ | refine blk_drew ?_ | refine blk_alloc ?_ _)); refine blk_put (cs := #[.slice none 0 0, .slice none 0 0]) ?_ 0 _ rfl; (with_reducible repeat (first | refine blk_drewN ?_ _ | refine blk_drew ?_ | refine blk_alloc ?_ _)); exact BK179.out)) (below_size (bS4 HB.out GE167.out GE168.out GE169.out GE179.out))); replace BK167 := Aside0.mk (blk_below (g := gb167) (o := .cells #[.slice A0_0 l0_0.length c0_0, .slice (some ad172) l0_1.length c0_1] 26 (0, 0)) (by (with_reducible repeat (first | refine blk_drewN ?_ _ | refine blk_drew ?_ | refine blk_alloc ?_ _)); refine blk_far ?_ NB167_179.out _; (with_reducible repeat (first | refine blk_drewN ?_ _ | refine blk_drew ?_ | refine blk_alloc ?_ _)); refine blk_far ?_ NB167_179.out _; (with_reducible repeat (first | refine blk_drewN ?_ _ | refine blk_drew ?_ | refine blk_alloc ?_ _)); exact BK167.out) hb); replace BK168 := Aside0.mk (blk_below (g := gb168) (o := .cells #[.slice A1_0 l1_0.length c1_0, .slice A1_1 l1_1.length c1_1] 26 (0, 0)) (by (with_reducible repeat (first | refine blk_drewN ?_ _ | refine blk_drew ?_ | refine blk_alloc ?_ _)); refine blk_far ?_ NB168_179.out _; (with_reducible repeat (first | refine blk_drewN ?_ _ | refine blk_drew ?_ | refine blk_alloc ?_ _)); refine blk_far ?_ NB168_179.out _; (with_reducible repeat (first | refine blk_drewN ?_ _ | refine blk_drew ?_ | refine blk_alloc ?_ _)); exact BK168.out) hb); replace BK169 := Aside0.mk (blk_below (g := gb169) (o := .cells #[.slice none 0 0, .slice none 0 0] 26 (0, 0)) (by (with_reducible repeat (first | refine blk_drewN ?_ _ | refine blk_drew ?_ | refine blk_alloc ?_ _)); refine blk_far ?_ NB169_179.out _; (with_reducible repeat (first | refine blk_drewN ?_ _ | refine blk_drew ?_ | refine blk_alloc ?_ _)); refine blk_far ?_ NB169_179.out _; (with_reducible repeat (first | refine blk_drewN ?_ _ | refine blk_drew ?_ | refine blk_alloc ?_ _)); exact BK169.out) hb); replace BK179 := Aside0.mk (blk_below (g := gb179) (o := .cells #[.slice (some ad181) t173.length co71, .slice Ao76 t176.length co76] 26 (0, 0)) (by (with_reducible repeat (first | refine blk_drewN ?_ _ | refine blk_drew ?_ | refine blk_alloc ?_ _)); refine blk_put (cs := #[.slice (some ad181) t173.length co71, .slice none 0 0]) ?_ 1 _ rfl; (with_reducible repeat (first | refine blk_drewN ?_ _ | refine blk_drew ?_ | refine blk_alloc ?_ _)); refine blk_put (cs := #[.slice none 0 0, .slice none 0 0]) ?_ 0 _ rfl; (with_reducible repeat (first | refine blk_drewN ?_ _ | refine blk_drew ?_ | refine blk_alloc ?_ _)); exact BK179.out) hb); replace HB := Aside0.mk (below_step (bS4 HB.out GE167.out GE168.out GE169.out GE179.out) hb); (try clear hb); (try clear hb2); (try clear hk); (try clear hi); (try clear ho0); obtain ⟨Ao78, co78, eo78⟩ := Kd.S_slice HO185.out; subst eo78; have q79 : ((ji59) : Int) ≤ ((t183.length : Int) : Int) := of_decide_eq_true (by first | (with_reducible assumption) | assumption); obtain ⟨i079, hi079, _, hsz79, _⟩ := info_parts info26; have hcut79 := cut_to (P := Try.prog) 45 26 .i64 Try.underlying45 hi079 Ao78 t183.length co78 (ji59) (of_decide_eq_true (by first | (with_reducible assumption) | assumption)) q79 (Kd.S_reads' HO185.out).2.1; have hr79 := Kd.S_take (m := ((ji59) : Int).toNat) HO185.out (by omega); have hy79 : y200.length = ((ji59) : Int).toNat := (by rw [Ny200.out, List.length_take]; omega); rw [← Ny200.out] at hr79; rw [← hy79] at hr79 hcut79; clear hy79 hi079 hsz79 HO185; have HO202 := Aside0.mk hr79; clear hr79; replace q79 := eq_true q79; have hcz80_0 : w77.cell? ⟨gb179, 0, none⟩ = some (.slice (some ad181) t173.length co71) := (blk_cell BK179.out 0).trans rfl; have hcz80_1 : w77.cell? ⟨gb179, 1, none⟩ = some (.slice Ao76 t176.length co76) := (blk_cell BK179.out 1).trans rfl; have hfz80_0 := blk_frozen BK179.out 0; have hfz80_1 := blk_frozen BK179.out 1; have q81 : (1 : Int) ≤ ((t173.length : Int) : Int) := of_decide_eq_true (by first | (with_reducible assumption) | assumption); obtain ⟨i081, hi081, _, hsz81, _⟩ := info_parts info3; have hroom81 : t173.length ≤ co71 := (Kd.V_reads' HO175.out).2.1; have hC81 : Kd.F (Kd.int .i64) _ _ (some ad181) t173.length t173 := (Kd.V_at (base := w.heap.size) HO175.out).2.2; have hcut81 := cut_from (P := Try.prog) 22 3 .i64 Try.underlying22 hi081 1 hsz81 (some ad181) t173.length co71 1 (by omega) q81; have hr81 := Kd.F_cut (m := (1 : Int).toNat) (c := co71) hC81 (by omega) hroom81; obtain ⟨A81, hA81⟩ : ∃ A1, A1 = (if co71 = (1 : Int).toNat then (some ad181) else ((some ad181) : Option Addr).map (·.add ((1 : Int).toNat * 1))) := ⟨_, rfl⟩; obtain ⟨c81, hc81⟩ : ∃ c1, c1 = co71 - (1 : Int).toNat := ⟨_, rfl⟩; have hy81 : y203.length = t173.length - (1 : Int).toNat := (by rw [Ny203.out, List.length_drop] <;> omega); rw [show (t173).drop (1 : Int).toNat = y203 from Ny203.out.symm] at hr81; replace hr81 : Kd.F (Kd.int .i64) _ _ A81 y203.length y203 := (by rw [hA81]; exact hr81); rw [← hy81, ← hA81, ← hc81] at hcut81; have HO207 := Aside0.mk (show Kd.V (Kd.int .i64) 3 _ w.heap.size _ (.slice A81 y203.length c81) y203 from Kd.V_mk (by rw [hy81, hc81]; exact Nat.sub_le_sub_right hroom81 _) hr81); have HC207 := Aside0.mk (show y203.length ≤ c81 from by rw [hy81, hc81]; exact Nat.sub_le_sub_right hroom81 _); clear hr81 hC81 hroom81 hi081 hsz81 hc81; have KY81 := Aside0.mk hy81; have KA81 := Aside0.mk hA81; clear hy81 hA81; replace q81 := eq_true q81) | (go_at_call 33; (repeat rw [i64_w]); (with_reducible refine (spec_l5Rows.calls kj2 _ _ y200 _ _ y203 t208 t211 _ ?side1 ?side2 ?side3 ?side4 A63.out).mono ?_); (case side1 => exact cU (Kd.S_reads' HO202.out).2.2); (case side2 => exact (Kd.S_reads' HO202.out).2.1); (case side3 => exact cU (Kd.V_reads' HO207.out).2.2); (case side4 => exact (Kd.V_reads' HO207.out).2.1); rintro e w82 ⟨v209, v212, rfl, ho0, ho1, hb⟩; replace HO175 := Aside0.mk (Kd.V_mono (Kd.V_told (Kd.V_told (Kd.V_old (VU HO175.out) hb) (Kd.R_base ho0)) (Kd.R_base ho1)) (fun _ h_ => h_.1)); replace HO178 := Aside0.mk (Kd.V_mono (Kd.V_told (Kd.V_told (Kd.V_old (VU HO178.out) hb) (Kd.R_base ho0)) (Kd.R_base ho1)) (fun _ h_ => h_.1)); replace HO202 := Aside0.mk (Kd.S_mono (Kd.S_told (Kd.S_told (Kd.S_old (SU HO202.out) hb) (Kd.R_base ho0)) (Kd.R_base ho1)) (fun _ h_ => h_.1)); replace HO207 := Aside0.mk (Kd.V_mono (Kd.V_told (Kd.V_told (Kd.V_old (VU HO207.out) hb) (Kd.R_base ho0)) (Kd.R_base ho1)) (fun _ h_ => h_.1)); have HO210 := Aside0.mk (Kd.R_lower ho0 (below_size (bS4 HB.out GE167.out GE168.out GE169.out GE179.out))); have HO213 := Aside0.mk (Kd.R_lower ho1 (below_size (bS4 HB.out GE167.out GE168.out GE169.out GE179.out))); replace BK167 := Aside0.mk (blk_below (g := gb167) (o := .cells #[.slice A0_0 l0_0.length c0_0, .slice (some ad172) l0_1.length c0_1] 26 (0, 0)) (kU BK167.out) hb); replace BK168 := Aside0.mk (blk_below (g := gb168) (o := .cells #[.slice A1_0 l1_0.length c1_0, .slice A1_1 l1_1.length c1_1] 26 (0, 0)) (kU BK168.out) hb); replace BK169 := Aside0.mk (blk_below (g := gb169) (o := .cells #[.slice none 0 0, .slice none 0 0] 26 (0, 0)) (kU BK169.out) hb); replace BK179 := Aside0.mk (blk_below (g := gb179) (o := .cells #[.slice (some ad181) t173.length co71, .slice Ao76 t176.length co76] 26 (0, 0)) (kU BK179.out) hb); replace HB := Aside0.mk (below_step (bS4 HB.out GE167.out GE168.out GE169.out GE179.out) hb); (try clear hb); (try clear hb2); (try clear hk); (try clear hi); (try clear ho0); (try clear ho1); obtain ⟨Ao83, co83, eo83⟩ := Kd.R_slice HO210.out; subst eo83; have hcz84_0 : w82.cell? ⟨gb169, 0, none⟩ = some (.slice none 0 0) := (blk_cell BK169.out 0).trans rfl; have hcz84_1 : w82.cell? ⟨gb169, 1, none⟩ = some (.slice none 0 0) := (blk_cell BK169.out 1).trans rfl; have hfz84_0 := blk_frozen BK169.out 0; have hfz84_1 := blk_frozen BK169.out 1; obtain ⟨Ao85, co85, eo85⟩ := Kd.R_slice HO213.out; subst eo85))
           have p181 : 0 ≤ (0 : Int) := (by omega)
           have q181 : 0 < (t173.length : Int) := of_decide_eq_true (by first | (with_reducible assumption) | assumption)
           obtain ⟨ad181, e181, hx181_0⟩ := Kd.at_int (Kd.V_reads' HO175.out).2.2 0 p181 q181
           cases e181
           have qi181 : (0 < t173.length) = True := eq_true (by omega)
           (try rw [show ((0 : Int)).toNat = 0 from rfl] at hx181_0)
           (try rw [Addr.add_zero'] at hx181_0)
           obtain ⟨_, e_, hz_⟩ := Kd.at_int (Kd.V_reads' (Kd.V_far (p := ⟨gb179, 1, none⟩) (Kd.V_far (p := ⟨gb179, 0, none⟩) HO175.out (fun _ hk => hk.2) (.slice (some ad181) t173.length co71)) (fun _ hk => hk.2) (.slice Ao76 t176.length co76))).2.2 0 p181 q181
           cases e_
           replace hx181_0 := hz_
           (try rw [show ((0 : Int)).toNat = 0 from rfl] at hx181_0)
           (try rw [Addr.add_zero'] at hx181_0)
           (try have hy181_0 := fun (n_ : Nat) => (show ((((w70.drewN n_).setCell ⟨gb179, 0, none⟩ (.slice (some ad181) t173.length co71)).setCell ⟨gb179, 1, none⟩ (.slice Ao76 t176.length co76))).cell? _ = some _ from hx181_0))
           replace p181 := eq_true p181
           replace q181 := eq_true q181
           repeat (go_quiet (first | (go_at_call 31; (repeat rw [i64_w]); (with_reducible refine (spec_l1Max.calls (rd l0_1 0) (wrap64 (-(rd l0_1 0))) t180 _ A28.out).mono ?_); rintro e w' ⟨rfl, ⟨nd, rfl⟩⟩; (try first | exact ⟨rfl, _, World.drewN_drewN _ _ _⟩ | exact ⟨rfl, _, Eq.trans (World.drewN_drewN _ _ _) (congrArg (World.drewN _) (Nat.add_assoc _ _ _))⟩)) | (go_at_call 30; (repeat rw [i64_w]); (with_reducible refine (spec_l1Min.calls t180 (rd t173 0) t182 _ A30.out).mono ?_); rintro e w' ⟨rfl, ⟨nd, rfl⟩⟩; (try first | exact ⟨rfl, _, World.drewN_drewN _ _ _⟩ | exact ⟨rfl, _, Eq.trans (World.drewN_drewN _ _ _) (congrArg (World.drewN _) (Nat.add_assoc _ _ _))⟩))); try go_wp2_with (first | (go_at_call 29; (repeat rw [i64_w]); (with_reducible refine (spec_l5Vector.calls (fun k_ => k_ < w.heap.size) _ _ l1_0 (fun k_ => k_ < w.heap.size) _ _ l1_1 t173 t176 _ ?side1 ?side2 A27.out).mono ?_); (case side1 => exact Kd.V_mk HC1_0.out (Kd.F_below (Kd.C_F (Kd.heap_int .i64) HR1_0.out) (bS3 HB.out GE167.out GE168.out GE169.out))); (case side2 => exact Kd.V_mk HC1_1.out (Kd.F_below (Kd.C_F (Kd.heap_int .i64) HR1_1.out) (bS3 HB.out GE167.out GE168.out GE169.out))); rintro e w69 ⟨v174, v177, rfl, ho0, ho1, hb⟩; have HO175 := Aside0.mk (Kd.V_lower (Kd.V_mono (ok' := fun k_ => k_ ≠ gb167 ∧ k_ ≠ gb168 ∧ k_ ≠ gb169) ho0 (fun k_ hk_ => ⟨Or.elim hk_ (fun hs_ => Or.elim hs_ (fun hs_ => fun e_ => Nat.not_le.2 hs_ (by rw [e_]; exact GW167.out)) (fun hs_ => fun e_ => Nat.not_le.2 hs_ (by rw [e_]; exact GW167.out))) (fun hn_ => (Kd.freshB (g := gb167) (o := .cells #[.slice A0_0 l0_0.length c0_0, .slice (some ad172) l0_1.length c0_1] 26 (0, 0)) (kU BK167.out) k_ hn_)), Or.elim hk_ (fun hs_ => Or.elim hs_ (fun hs_ => fun e_ => Nat.not_le.2 hs_ (by rw [e_]; exact GW168.out)) (fun hs_ => fun e_ => Nat.not_le.2 hs_ (by rw [e_]; exact GW168.out))) (fun hn_ => (Kd.freshB (g := gb168) (o := .cells #[.slice A1_0 l1_0.length c1_0, .slice A1_1 l1_1.length c1_1] 26 (0, 0)) (kU BK168.out) k_ hn_)), Or.elim hk_ (fun hs_ => Or.elim hs_ (fun hs_ => fun e_ => Nat.not_le.2 hs_ (by rw [e_]; exact GW169.out)) (fun hs_ => fun e_ => Nat.not_le.2 hs_ (by rw [e_]; exact GW169.out))) (fun hn_ => (Kd.freshB (g := gb169) (o := .cells #[.slice none 0 0, .slice none 0 0] 26 (0, 0)) (kU BK169.out) k_ hn_))⟩)) (below_size (bS3 HB.out GE167.out GE168.out GE169.out))); have HO178 := Aside0.mk (Kd.V_lower (Kd.V_mono (ok' := fun k_ => k_ ≠ gb167 ∧ k_ ≠ gb168 ∧ k_ ≠ gb169) ho1 (fun k_ hk_ => ⟨Or.elim hk_ (fun hs_ => Or.elim hs_ (fun hs_ => fun e_ => Nat.not_le.2 hs_ (by rw [e_]; exact GW167.out)) (fun hs_ => fun e_ => Nat.not_le.2 hs_ (by rw [e_]; exact GW167.out))) (fun hn_ => (Kd.freshB (g := gb167) (o := .cells #[.slice A0_0 l0_0.length c0_0, .slice (some ad172) l0_1.length c0_1] 26 (0, 0)) (kU BK167.out) k_ hn_)), Or.elim hk_ (fun hs_ => Or.elim hs_ (fun hs_ => fun e_ => Nat.not_le.2 hs_ (by rw [e_]; exact GW168.out)) (fun hs_ => fun e_ => Nat.not_le.2 hs_ (by rw [e_]; exact GW168.out))) (fun hn_ => (Kd.freshB (g := gb168) (o := .cells #[.slice A1_0 l1_0.length c1_0, .slice A1_1 l1_1.length c1_1] 26 (0, 0)) (kU BK168.out) k_ hn_)), Or.elim hk_ (fun hs_ => Or.elim hs_ (fun hs_ => fun e_ => Nat.not_le.2 hs_ (by rw [e_]; exact GW169.out)) (fun hs_ => fun e_ => Nat.not_le.2 hs_ (by rw [e_]; exact GW169.out))) (fun hn_ => (Kd.freshB (g := gb169) (o := .cells #[.slice none 0 0, .slice none 0 0] 26 (0, 0)) (kU BK169.out) k_ hn_))⟩)) (below_size (bS3 HB.out GE167.out GE168.out GE169.out))); replace BK167 := Aside0.mk (blk_below (g := gb167) (o := .cells #[.slice A0_0 l0_0.length c0_0, .slice (some ad172) l0_1.length c0_1] 26 (0, 0)) (kU BK167.out) hb); replace BK168 := Aside0.mk (blk_below (g := gb168) (o := .cells #[.slice A1_0 l1_0.length c1_0, .slice A1_1 l1_1.length c1_1] 26 (0, 0)) (kU BK168.out) hb); replace BK169 := Aside0.mk (blk_below (g := gb169) (o := .cells #[.slice none 0 0, .slice none 0 0] 26 (0, 0)) (kU BK169.out) hb); replace HB := Aside0.mk (below_step (bS3 HB.out GE167.out GE168.out GE169.out) hb); (try clear hb); (try clear hb2); (try clear hk); (try clear hi); (try clear ho0); (try clear ho1)) | ((with_reducible refine gate_dst (N := 7) rfl ?_); refine box_event ?hg (N := 7) ?hd (cs := #[.slice none 0 0, .slice none 0 0]) (t := 26) ?hr ?_; (case hd => rfl); (case hg => rfl); (case hr => first | (go_simp; done) | (go_simp; rfl)); intro gb179 hg w70 hbox hb; replace HO175 := Aside0.mk (Kd.V_below (Kd.V_elderB (VU HO175.out) gb179 (Nat.le_of_eq hg.symm)) hb); replace HO178 := Aside0.mk (Kd.V_below (Kd.V_elderB (VU HO178.out) gb179 (Nat.le_of_eq hg.symm)) hb); have BK179 := Aside0.mk (hbox); have GW179 := Aside0.mk ((by rw [hg]; exact (below_size (bS3 HB.out GE167.out GE168.out GE169.out)) : w.heap.size ≤ gb179)); have GE179 := Aside0.mk ((by rw [hg]; exact (below_size (bS3 HB.out GE167.out GE168.out GE169.out)) : w.heap.size ≤ gb179)); replace HB := Aside0.mk (below_step (bS3 HB.out GE167.out GE168.out GE169.out) hb); have NB167_179 := Aside0.mk ((by rw [hg]; exact Nat.ne_of_lt (blk_lt (g := gb167) (o := .cells #[.slice A0_0 l0_0.length c0_0, .slice (some ad172) l0_1.length c0_1] 26 (0, 0)) (kU BK167.out)) : gb167 ≠ gb179)); have NB179_167 := Aside0.mk ((by rw [hg]; exact Nat.ne_of_gt (blk_lt (g := gb167) (o := .cells #[.slice A0_0 l0_0.length c0_0, .slice (some ad172) l0_1.length c0_1] 26 (0, 0)) (kU BK167.out)) : gb179 ≠ gb167)); replace BK167 := Aside0.mk (blk_below (g := gb167) (o := .cells #[.slice A0_0 l0_0.length c0_0, .slice (some ad172) l0_1.length c0_1] 26 (0, 0)) (kU BK167.out) hb); have NB168_179 := Aside0.mk ((by rw [hg]; exact Nat.ne_of_lt (blk_lt (g := gb168) (o := .cells #[.slice A1_0 l1_0.length c1_0, .slice A1_1 l1_1.length c1_1] 26 (0, 0)) (kU BK168.out)) : gb168 ≠ gb179)); have NB179_168 := Aside0.mk ((by rw [hg]; exact Nat.ne_of_gt (blk_lt (g := gb168) (o := .cells #[.slice A1_0 l1_0.length c1_0, .slice A1_1 l1_1.length c1_1] 26 (0, 0)) (kU BK168.out)) : gb179 ≠ gb168)); replace BK168 := Aside0.mk (blk_below (g := gb168) (o := .cells #[.slice A1_0 l1_0.length c1_0, .slice A1_1 l1_1.length c1_1] 26 (0, 0)) (kU BK168.out) hb); have NB169_179 := Aside0.mk ((by rw [hg]; exact Nat.ne_of_lt (blk_lt (g := gb169) (o := .cells #[.slice none 0 0, .slice none 0 0] 26 (0, 0)) (kU BK169.out)) : gb169 ≠ gb179)); have NB179_169 := Aside0.mk ((by rw [hg]; exact Nat.ne_of_gt (blk_lt (g := gb169) (o := .cells #[.slice none 0 0, .slice none 0 0] 26 (0, 0)) (kU BK169.out)) : gb179 ≠ gb169)); replace BK169 := Aside0.mk (blk_below (g := gb169) (o := .cells #[.slice none 0 0, .slice none 0 0] 26 (0, 0)) (kU BK169.out) hb); clear hb hbox hg; obtain ⟨Ao71, co71, eo71⟩ := Kd.V_slice HO175.out; subst eo71; have hnb72 := NB179_167.out; have hnc72 := NB167_179.out; have hnb73 := NB179_168.out; have hnc73 := NB168_179.out; have hnb74 := NB179_169.out; have hnc74 := NB169_179.out; have hcz75_0 : w70.cell? ⟨gb179, 0, none⟩ = some (.slice none 0 0) := (blk_cell BK179.out 0).trans rfl; have hcz75_1 : w70.cell? ⟨gb179, 1, none⟩ = some (.slice none 0 0) := (blk_cell BK179.out 1).trans rfl; have hfz75_0 := blk_frozen BK179.out 0; have hfz75_1 := blk_frozen BK179.out 1; obtain ⟨Ao76, co76, eo76⟩ := Kd.V_slice HO178.out; subst eo76) | (go_at_call 31; (repeat rw [i64_w]); (with_reducible refine (spec_l1Max.calls (rd l0_1 0) (wrap64 (-(rd l0_1 0))) t180 _ A28.out).mono ?_); rintro e w' ⟨rfl, ⟨nd, rfl⟩⟩; (try first | exact ⟨rfl, _, World.drewN_drewN _ _ _⟩ | exact ⟨rfl, _, Eq.trans (World.drewN_drewN _ _ _) (congrArg (World.drewN _) (Nat.add_assoc _ _ _))⟩); have p181 : 0 ≤ (0 : Int) := (by omega); have q181 : 0 < (t173.length : Int) := of_decide_eq_true (by first | (with_reducible assumption) | assumption); obtain ⟨ad181, e181, hx181_0⟩ := Kd.at_int (Kd.V_reads' HO175.out).2.2 0 p181 q181; cases e181; have qi181 : (0 < t173.length) = True := eq_true (by omega); (try rw [show ((0 : Int)).toNat = 0 from rfl] at hx181_0); (try rw [Addr.add_zero'] at hx181_0); have hn181_0 : ad181.block ≠ gb179 := Kd.own_blk (Kd.V_ne HO175.out BK179.out (by decide)); have hn181_1 : ad181.block ≠ gb179 := Kd.own_blk (Kd.V_ne HO175.out BK179.out (by decide)); replace hx181_0 := (cell_far (p := ⟨gb179, 0, none⟩) (by first | (rw [add_block]; exact hn181_0) | (show (Addr.add _ _).block ≠ _; rw [add_block]; exact hn181_0) | exact hn181_0) (.slice (some ad181) t173.length co71)).trans hx181_0; replace hx181_0 := (cell_far (p := ⟨gb179, 1, none⟩) (by first | (rw [add_block]; exact hn181_1) | (show (Addr.add _ _).block ≠ _; rw [add_block]; exact hn181_1) | exact hn181_1) (.slice Ao76 t176.length co76)).trans hx181_0; (try have hy181_0 := fun (n_ : Nat) => (show ((((w70.drewN n_).setCell ⟨gb179, 0, none⟩ (.slice (some ad181) t173.length co71)).setCell ⟨gb179, 1, none⟩ (.slice Ao76 t176.length co76))).cell? _ = some _ from hx181_0)); clear hn181_0; clear hn181_1; replace p181 := eq_true p181; replace q181 := eq_true q181) | (go_at_call 30; (repeat rw [i64_w]); (with_reducible refine (spec_l1Min.calls t180 (rd t173 0) t182 _ A30.out).mono ?_); rintro e w' ⟨rfl, ⟨nd, rfl⟩⟩; (try first | exact ⟨rfl, _, World.drewN_drewN _ _ _⟩ | exact ⟨rfl, _, Eq.trans (World.drewN_drewN _ _ _) (congrArg (World.drewN _) (Nat.add_assoc _ _ _))⟩)) | (go_at_call 32; (repeat rw [i64_w]); (with_reducible refine (spec_l3Rows.calls kj2 _ _ t173 _ _ t176 t183 _ ?side1 ?side2 ?side3 ?side4 A31.out).mono ?_); (case side1 => refine (Kd.V_reads' (e := 3) (base := w.heap.size) (ok := fun k_ => ((k_ ≠ gb167 ∧ (k_ ≠ gb168 ∧ k_ ≠ gb169)) ∧ k_ ≠ gb179)) (n := t173.length) (c := co71) ?_).2.2; exact (by (with_reducible repeat (first | apply Kd.V_alloc | apply Kd.V_drewN | apply Kd.V_drew)); exact (Kd.V_mono (Kd.V_far (p := ⟨gb179, 1, none⟩) (Kd.V_far (p := ⟨gb179, 0, none⟩) (Kd.V_mono HO175.out (fun k_ hk => (⟨hk, hk.2⟩ : _ ∧ k_ ≠ gb179))) (fun _ hk => hk.2) (.slice (some ad181) t173.length co71)) (fun _ hk => hk.2) (.slice Ao76 t176.length co76)) (fun _ h_ => h_.1)))); (case side2 => exact (Kd.V_reads' HO175.out).2.1); (case side3 => refine (Kd.V_reads' (e := 3) (base := w.heap.size) (ok := fun k_ => ((k_ ≠ gb167 ∧ (k_ ≠ gb168 ∧ k_ ≠ gb169)) ∧ k_ ≠ gb179)) (n := t176.length) (c := co76) ?_).2.2; exact (by (with_reducible repeat (first | apply Kd.V_alloc | apply Kd.V_drewN | apply Kd.V_drew)); exact (Kd.V_mono (Kd.V_far (p := ⟨gb179, 1, none⟩) (Kd.V_far (p := ⟨gb179, 0, none⟩) (Kd.V_mono HO178.out (fun k_ hk => (⟨hk, hk.2⟩ : _ ∧ k_ ≠ gb179))) (fun _ hk => hk.2) (.slice (some ad181) t173.length co71)) (fun _ hk => hk.2) (.slice Ao76 t176.length co76)) (fun _ h_ => h_.1)))); (case side4 => exact (Kd.V_reads' HO178.out).2.1); rintro e w77 ⟨v184, rfl, ho0, hb⟩; replace HO175 := Aside0.mk (Kd.V_elder' (by (with_reducible repeat (first | apply Kd.V_alloc | apply Kd.V_drewN | apply Kd.V_drew)); exact (Kd.V_mono (Kd.V_far (p := ⟨gb179, 1, none⟩) (Kd.V_far (p := ⟨gb179, 0, none⟩) (Kd.V_mono HO175.out (fun k_ hk => (⟨hk, hk.2⟩ : _ ∧ k_ ≠ gb179))) (fun _ hk => hk.2) (.slice (some ad181) t173.length co71)) (fun _ hk => hk.2) (.slice Ao76 t176.length co76)) (fun _ h_ => h_.1))) (Kd.S_base ho0) hb); replace HO178 := Aside0.mk (Kd.V_elder' (by (with_reducible repeat (first | apply Kd.V_alloc | apply Kd.V_drewN | apply Kd.V_drew)); exact (Kd.V_mono (Kd.V_far (p := ⟨gb179, 1, none⟩) (Kd.V_far (p := ⟨gb179, 0, none⟩) (Kd.V_mono HO178.out (fun k_ hk => (⟨hk, hk.2⟩ : _ ∧ k_ ≠ gb179))) (fun _ hk => hk.2) (.slice (some ad181) t173.length co71)) (fun _ hk => hk.2) (.slice Ao76 t176.length co76)) (fun _ h_ => h_.1))) (Kd.S_base ho0) hb); have HO185 := Aside0.mk (Kd.S_lower (Kd.S_newB (Kd.S_newB (Kd.S_newB (Kd.S_newB ho0 (g := gb167) (o := .cells #[.slice A0_0 l0_0.length c0_0, .slice (some ad172) l0_1.length c0_1] 26 (0, 0)) (by (with_reducible repeat (first | refine blk_drewN ?_ _ | refine blk_drew ?_ | refine blk_alloc ?_ _)); refine blk_far ?_ NB167_179.out _; (with_reducible repeat (first | refine blk_drewN ?_ _ | refine blk_drew ?_ | refine blk_alloc ?_ _)); refine blk_far ?_ NB167_179.out _; (with_reducible repeat (first | refine blk_drewN ?_ _ | refine blk_drew ?_ | refine blk_alloc ?_ _)); exact BK167.out)) (g := gb168) (o := .cells #[.slice A1_0 l1_0.length c1_0, .slice A1_1 l1_1.length c1_1] 26 (0, 0)) (by (with_reducible repeat (first | refine blk_drewN ?_ _ | refine blk_drew ?_ | refine blk_alloc ?_ _)); refine blk_far ?_ NB168_179.out _; (with_reducible repeat (first | refine blk_drewN ?_ _ | refine blk_drew ?_ | refine blk_alloc ?_ _)); refine blk_far ?_ NB168_179.out _; (with_reducible repeat (first | refine blk_drewN ?_ _ | refine blk_drew ?_ | refine blk_alloc ?_ _)); exact BK168.out)) (g := gb169) (o := .cells #[.slice none 0 0, .slice none 0 0] 26 (0, 0)) (by (with_reducible repeat (first | refine blk_drewN ?_ _ | refine blk_drew ?_ | refine blk_alloc ?_ _)); refine blk_far ?_ NB169_179.out _; (with_reducible repeat (first | refine blk_drewN ?_ _ | refine blk_drew ?_ | refine blk_alloc ?_ _)); refine blk_far ?_ NB169_179.out _; (with_reducible repeat (first | refine blk_drewN ?_ _ | refine blk_drew ?_ | refine blk_alloc ?_ _)); exact BK169.out)) (g := gb179) (o := .cells #[.slice (some ad181) t173.length co71, .slice Ao76 t176.length co76] 26 (0, 0)) (by (with_reducible repeat (first | refine blk_drewN ?_ _ | refine blk_drew ?_ | refine blk_alloc ?_ _)); refine blk_put (cs := #[.slice (some ad181) t173.length co71, .slice none 0 0]) ?_ 1 _ rfl; (with_reducible repeat (first | refine blk_drewN ?_ _ | refine blk_drew ?_ | refine blk_alloc ?_ _)); refine blk_put (cs := #[.slice none 0 0, .slice none 0 0]) ?_ 0 _ rfl; (with_reducible repeat (first | refine blk_drewN ?_ _ | refine blk_drew ?_ | refine blk_alloc ?_ _)); exact BK179.out)) (below_size (bS4 HB.out GE167.out GE168.out GE169.out GE179.out))); replace BK167 := Aside0.mk (blk_below (g := gb167) (o := .cells #[.slice A0_0 l0_0.length c0_0, .slice (some ad172) l0_1.length c0_1] 26 (0, 0)) (by (with_reducible repeat (first | refine blk_drewN ?_ _ | refine blk_drew ?_ | refine blk_alloc ?_ _)); refine blk_far ?_ NB167_179.out _; (with_reducible repeat (first | refine blk_drewN ?_ _ | refine blk_drew ?_ | refine blk_alloc ?_ _)); refine blk_far ?_ NB167_179.out _; (with_reducible repeat (first | refine blk_drewN ?_ _ | refine blk_drew ?_ | refine blk_alloc ?_ _)); exact BK167.out) hb); replace BK168 := Aside0.mk (blk_below (g := gb168) (o := .cells #[.slice A1_0 l1_0.length c1_0, .slice A1_1 l1_1.length c1_1] 26 (0, 0)) (by (with_reducible repeat (first | refine blk_drewN ?_ _ | refine blk_drew ?_ | refine blk_alloc ?_ _)); refine blk_far ?_ NB168_179.out _; (with_reducible repeat (first | refine blk_drewN ?_ _ | refine blk_drew ?_ | refine blk_alloc ?_ _)); refine blk_far ?_ NB168_179.out _; (with_reducible repeat (first | refine blk_drewN ?_ _ | refine blk_drew ?_ | refine blk_alloc ?_ _)); exact BK168.out) hb); replace BK169 := Aside0.mk (blk_below (g := gb169) (o := .cells #[.slice none 0 0, .slice none 0 0] 26 (0, 0)) (by (with_reducible repeat (first | refine blk_drewN ?_ _ | refine blk_drew ?_ | refine blk_alloc ?_ _)); refine blk_far ?_ NB169_179.out _; (with_reducible repeat (first | refine blk_drewN ?_ _ | refine blk_drew ?_ | refine blk_alloc ?_ _)); refine blk_far ?_ NB169_179.out _; (with_reducible repeat (first | refine blk_drewN ?_ _ | refine blk_drew ?_ | refine blk_alloc ?_ _)); exact BK169.out) hb); replace BK179 := Aside0.mk (blk_below (g := gb179) (o := .cells #[.slice (some ad181) t173.length co71, .slice Ao76 t176.length co76] 26 (0, 0)) (by (with_reducible repeat (first | refine blk_drewN ?_ _ | refine blk_drew ?_ | refine blk_alloc ?_ _)); refine blk_put (cs := #[.slice (some ad181) t173.length co71, .slice none 0 0]) ?_ 1 _ rfl; (with_reducible repeat (first | refine blk_drewN ?_ _ | refine blk_drew ?_ | refine blk_alloc ?_ _)); refine blk_put (cs := #[.slice none 0 0, .slice none 0 0]) ?_ 0 _ rfl; (with_reducible repeat (first | refine blk_drewN ?_ _ | refine blk_drew ?_ | refine blk_alloc ?_ _)); exact BK179.out) hb); replace HB := Aside0.mk (below_step (bS4 HB.out GE167.out GE168.out GE169.out GE179.out) hb); (try clear hb); (try clear hb2); (try clear hk); (try clear hi); (try clear ho0); obtain ⟨Ao78, co78, eo78⟩ := Kd.S_slice HO185.out; subst eo78; have q79 : ((ji59) : Int) ≤ ((t183.length : Int) : Int) := of_decide_eq_true (by first | (with_reducible assumption) | assumption); obtain ⟨i079, hi079, _, hsz79, _⟩ := info_parts info26; have hcut79 := cut_to (P := Try.prog) 45 26 .i64 Try.underlying45 hi079 Ao78 t183.length co78 (ji59) (of_decide_eq_true (by first | (with_reducible assumption) | assumption)) q79 (Kd.S_reads' HO185.out).2.1; have hr79 := Kd.S_take (m := ((ji59) : Int).toNat) HO185.out (by omega); have hy79 : y200.length = ((ji59) : Int).toNat := (by rw [Ny200.out, List.length_take]; omega); rw [← Ny200.out] at hr79; rw [← hy79] at hr79 hcut79; clear hy79 hi079 hsz79 HO185; have HO202 := Aside0.mk hr79; clear hr79; replace q79 := eq_true q79; have hcz80_0 : w77.cell? ⟨gb179, 0, none⟩ = some (.slice (some ad181) t173.length co71) := (blk_cell BK179.out 0).trans rfl; have hcz80_1 : w77.cell? ⟨gb179, 1, none⟩ = some (.slice Ao76 t176.length co76) := (blk_cell BK179.out 1).trans rfl; have hfz80_0 := blk_frozen BK179.out 0; have hfz80_1 := blk_frozen BK179.out 1; have q81 : (1 : Int) ≤ ((t173.length : Int) : Int) := of_decide_eq_true (by first | (with_reducible assumption) | assumption); obtain ⟨i081, hi081, _, hsz81, _⟩ := info_parts info3; have hroom81 : t173.length ≤ co71 := (Kd.V_reads' HO175.out).2.1; have hC81 : Kd.F (Kd.int .i64) _ _ (some ad181) t173.length t173 := (Kd.V_at (base := w.heap.size) HO175.out).2.2; have hcut81 := cut_from (P := Try.prog) 22 3 .i64 Try.underlying22 hi081 1 hsz81 (some ad181) t173.length co71 1 (by omega) q81; have hr81 := Kd.F_cut (m := (1 : Int).toNat) (c := co71) hC81 (by omega) hroom81; obtain ⟨A81, hA81⟩ : ∃ A1, A1 = (if co71 = (1 : Int).toNat then (some ad181) else ((some ad181) : Option Addr).map (·.add ((1 : Int).toNat * 1))) := ⟨_, rfl⟩; obtain ⟨c81, hc81⟩ : ∃ c1, c1 = co71 - (1 : Int).toNat := ⟨_, rfl⟩; have hy81 : y203.length = t173.length - (1 : Int).toNat := (by rw [Ny203.out, List.length_drop] <;> omega); rw [show (t173).drop (1 : Int).toNat = y203 from Ny203.out.symm] at hr81; replace hr81 : Kd.F (Kd.int .i64) _ _ A81 y203.length y203 := (by rw [hA81]; exact hr81); rw [← hy81, ← hA81, ← hc81] at hcut81; have HO207 := Aside0.mk (show Kd.V (Kd.int .i64) 3 _ w.heap.size _ (.slice A81 y203.length c81) y203 from Kd.V_mk (by rw [hy81, hc81]; exact Nat.sub_le_sub_right hroom81 _) hr81); have HC207 := Aside0.mk (show y203.length ≤ c81 from by rw [hy81, hc81]; exact Nat.sub_le_sub_right hroom81 _); clear hr81 hC81 hroom81 hi081 hsz81 hc81; have KY81 := Aside0.mk hy81; have KA81 := Aside0.mk hA81; clear hy81 hA81; replace q81 := eq_true q81) | (go_at_call 33; (repeat rw [i64_w]); (with_reducible refine (spec_l5Rows.calls kj2 _ _ y200 _ _ y203 t208 t211 _ ?side1 ?side2 ?side3 ?side4 A63.out).mono ?_); (case side1 => exact cU (Kd.S_reads' HO202.out).2.2); (case side2 => exact (Kd.S_reads' HO202.out).2.1); (case side3 => exact cU (Kd.V_reads' HO207.out).2.2); (case side4 => exact (Kd.V_reads' HO207.out).2.1); rintro e w82 ⟨v209, v212, rfl, ho0, ho1, hb⟩; replace HO175 := Aside0.mk (Kd.V_mono (Kd.V_told (Kd.V_told (Kd.V_old (VU HO175.out) hb) (Kd.R_base ho0)) (Kd.R_base ho1)) (fun _ h_ => h_.1)); replace HO178 := Aside0.mk (Kd.V_mono (Kd.V_told (Kd.V_told (Kd.V_old (VU HO178.out) hb) (Kd.R_base ho0)) (Kd.R_base ho1)) (fun _ h_ => h_.1)); replace HO202 := Aside0.mk (Kd.S_mono (Kd.S_told (Kd.S_told (Kd.S_old (SU HO202.out) hb) (Kd.R_base ho0)) (Kd.R_base ho1)) (fun _ h_ => h_.1)); replace HO207 := Aside0.mk (Kd.V_mono (Kd.V_told (Kd.V_told (Kd.V_old (VU HO207.out) hb) (Kd.R_base ho0)) (Kd.R_base ho1)) (fun _ h_ => h_.1)); have HO210 := Aside0.mk (Kd.R_lower ho0 (below_size (bS4 HB.out GE167.out GE168.out GE169.out GE179.out))); have HO213 := Aside0.mk (Kd.R_lower ho1 (below_size (bS4 HB.out GE167.out GE168.out GE169.out GE179.out))); replace BK167 := Aside0.mk (blk_below (g := gb167) (o := .cells #[.slice A0_0 l0_0.length c0_0, .slice (some ad172) l0_1.length c0_1] 26 (0, 0)) (kU BK167.out) hb); replace BK168 := Aside0.mk (blk_below (g := gb168) (o := .cells #[.slice A1_0 l1_0.length c1_0, .slice A1_1 l1_1.length c1_1] 26 (0, 0)) (kU BK168.out) hb); replace BK169 := Aside0.mk (blk_below (g := gb169) (o := .cells #[.slice none 0 0, .slice none 0 0] 26 (0, 0)) (kU BK169.out) hb); replace BK179 := Aside0.mk (blk_below (g := gb179) (o := .cells #[.slice (some ad181) t173.length co71, .slice Ao76 t176.length co76] 26 (0, 0)) (kU BK179.out) hb); replace HB := Aside0.mk (below_step (bS4 HB.out GE167.out GE168.out GE169.out GE179.out) hb); (try clear hb); (try clear hb2); (try clear hk); (try clear hi); (try clear ho0); (try clear ho1); obtain ⟨Ao83, co83, eo83⟩ := Kd.R_slice HO210.out; subst eo83; have hcz84_0 : w82.cell? ⟨gb169, 0, none⟩ = some (.slice none 0 0) := (blk_cell BK169.out 0).trans rfl; have hcz84_1 : w82.cell? ⟨gb169, 1, none⟩ = some (.slice none 0 0) := (blk_cell BK169.out 1).trans rfl; have hfz84_0 := blk_frozen BK169.out 0; have hfz84_1 := blk_frozen BK169.out 1; obtain ⟨Ao85, co85, eo85⟩ := Kd.R_slice HO213.out; subst eo85)))
           refine bodyPost_ret (results_ct rfl _ _ gb169 26 #[.slice Ao83 t208.length co83, .slice Ao85 t211.length co85] (0, 0) _ rfl (by (with_reducible repeat (first | refine blk_drewN ?_ _ | refine blk_drew ?_ | refine blk_alloc ?_ _)); refine blk_put (cs := #[.slice Ao83 t208.length co83, .slice none 0 0]) ?_ 1 _ rfl; (with_reducible repeat (first | refine blk_drewN ?_ _ | refine blk_drew ?_ | refine blk_alloc ?_ _)); refine blk_put (cs := #[.slice none 0 0, .slice none 0 0]) ?_ 0 _ rfl; (with_reducible repeat (first | refine blk_drewN ?_ _ | refine blk_drew ?_ | refine blk_alloc ?_ _)); exact BK169.out) Try.underlying26 rfl (by kernel_rfl)) rfl ?_
           exact ⟨_, _, by first | rfl | (simp [errW_none, errW_some] <;> rfl) | (simp only [← hji59]; first | rfl | (simp [errW_none, errW_some] <;> rfl)) | (simp [*, errW_none, errW_some] <;> rfl), by (with_reducible repeat (first | apply Kd.R_alloc | apply Kd.R_drewN | apply Kd.R_drew)); exact Kd.R_mono (Kd.R_far (p := ⟨gb169, 1, none⟩) (Kd.R_far (p := ⟨gb169, 0, none⟩) (Kd.R_types HO210.out BK169.out (by decide)) (fun _ hk => hk.2) (.slice Ao83 t208.length co83)) (fun _ hk => hk.2) (.slice Ao85 t211.length co85)) (fun _ hk => hk.1), by (with_reducible repeat (first | apply Kd.R_alloc | apply Kd.R_drewN | apply Kd.R_drew)); exact Kd.R_mono (Kd.R_far (p := ⟨gb169, 1, none⟩) (Kd.R_far (p := ⟨gb169, 0, none⟩) (Kd.R_types HO213.out BK169.out (by decide)) (fun _ hk => hk.2) (.slice Ao83 t208.length co83)) (fun _ hk => hk.2) (.slice Ao85 t211.length co85)) (fun _ hk => hk.1), by repeat (first | (with_reducible first | exact HB.out | apply below_alloc | apply pw_below_drewN | apply below_drew1 | refine below_set ?_ GE167.out | refine below_set ?_ GE168.out | refine below_set ?_ GE169.out | refine below_set ?_ GE179.out) | exact HB.out)⟩
          ·
           rw [if_neg c62] at H
           exact absurd H (by simp)
         ·
          rw [if_neg c61] at H
          exact absurd H (by simp)
        ·
         rw [if_neg c60] at H
         exact absurd H (by simp)
      ·
       rw [if_neg c29] at H
       exact absurd H (by simp)
     ·
      rw [if_neg c26] at H
      exact absurd H (by simp)
    ·
     rw [if_neg c25] at H
     have c25b0 : ((l0_1.length : Int) == 1) = false := beq_eq_false_iff_ne.mpr c25
     have c25b1 : ((l0_1.length : Int) != 1) = true := bne_iff_ne.mpr c25
     simp only [Option.some.injEq, Prod.mk.injEq] at H
     obtain ⟨rfl, rfl, rfl⟩ := H
     have hnb86 := NB167_168.out
     have hnc86 := NB168_167.out
     have hnb87 := NB167_169.out
     have hnc87 := NB169_167.out
     have hcz88_0 : wc.cell? ⟨gb167, 0, none⟩ = some (.slice A0_0 l0_0.length c0_0) := (blk_cell BK167.out 0).trans rfl
     have hcz88_1 : wc.cell? ⟨gb167, 1, none⟩ = some (.slice A0_1 l0_1.length c0_1) := (blk_cell BK167.out 1).trans rfl
     have hfz88_0 := blk_frozen BK167.out 0
     have hfz88_1 := blk_frozen BK167.out 1
     have hnb89 := NB169_168.out
     have hnc89 := NB168_169.out
     have hcz90_0 : wc.cell? ⟨gb169, 0, none⟩ = some (.slice none 0 0) := (blk_cell BK169.out 0).trans rfl
     have hcz90_1 : wc.cell? ⟨gb169, 1, none⟩ = some (.slice none 0 0) := (blk_cell BK169.out 1).trans rfl
     have hfz90_0 := blk_frozen BK169.out 0
     have hfz90_1 := blk_frozen BK169.out 1
     go_wp2
     repeat (go_quiet (fail); try go_wp2)
     refine bodyPost_ret (results_ct rfl _ _ gb169 26 #[.slice none 0 0, .slice none 0 0] (0, 0) _ rfl (by (with_reducible repeat (first | refine blk_drewN ?_ _ | refine blk_drew ?_ | refine blk_alloc ?_ _)); refine blk_put (cs := #[.slice none 0 0, .slice none 0 0]) ?_ 1 _ rfl; (with_reducible repeat (first | refine blk_drewN ?_ _ | refine blk_drew ?_ | refine blk_alloc ?_ _)); refine blk_put (cs := #[.slice none 0 0, .slice none 0 0]) ?_ 0 _ rfl; (with_reducible repeat (first | refine blk_drewN ?_ _ | refine blk_drew ?_ | refine blk_alloc ?_ _)); exact BK169.out) Try.underlying26 rfl (by kernel_rfl)) rfl ?_
     exact ⟨_, _, by first | rfl | (simp [errW_none, errW_some] <;> rfl) | (simp [*, errW_none, errW_some] <;> rfl), by first | exact Kd.R_nil _ _ _ _ _ | exact Kd.N_nil _ _ _ _ _ | exact Kd.V_nil _ _ _ _ _ | exact Kd.Q_nil _ _ _ _ _ | exact Kd.S_nil _ _ _ _ _, by first | exact Kd.R_nil _ _ _ _ _ | exact Kd.N_nil _ _ _ _ _ | exact Kd.V_nil _ _ _ _ _ | exact Kd.Q_nil _ _ _ _ _ | exact Kd.S_nil _ _ _ _ _, by repeat (first | (with_reducible first | exact HB.out | apply below_alloc | apply pw_below_drewN | apply below_drew1 | refine below_set ?_ GE167.out | refine below_set ?_ GE168.out | refine below_set ?_ GE169.out) | exact HB.out)⟩

/-! ### laws_toIntS: function 34 -/
def laws_toIntS.l0 : Nat → List Int → List Int → Int → Option (List Int)
 | 0, _, _, _ => none
 | k + 1, x0, x3, x4 => if x4 < (x0.length : Int) then (if 0 ≤ x4 then (if x4 < (x3.length : Int) then (laws_toIntS.l0 k x0 (x3.set (x4 : Int).toNat (rd x0 x4)) (wrap64 (x4 + 1))) else (none)) else (none)) else (some x3)
def laws_toIntS.f (k : Nat) (l0 : List Int) : Option (List Int) := if 0 ≤ (l0.length : Int) then (if ((l0.length : Int) : Int).toNat ≤ 35184372088832 then (laws_toIntS.l0 k l0 (List.replicate ((l0.length : Int) : Int).toNat 0) 0) else (none)) else (none)
theorem laws_toIntS.mono_l : ∀ k, (∀ y0 y1 y2, LeO (laws_toIntS.l0 k y0 y1 y2) (laws_toIntS.l0 (k + 1) y0 y1 y2))
 | 0 => fun _ _ _ r h => by simp [laws_toIntS.l0] at h
 | k + 1 => by
  have ih0 := laws_toIntS.mono_l k
  ·
   intro y0 y1 y2
   unfold laws_toIntS.l0
   repeat' first
   | (with_reducible exact ih0 _ _ _)
   | (with_reducible exact LeO.refl _)
   | (with_reducible exact LeO.none _)
   | (with_reducible refine LeO.ite ?_ ?_)
   | (with_reducible refine LeO.bind ?_ (fun _ => ?_))
   | exact ih0 _ _ _
   | exact LeO.none _
   | refine LeO.ite ?_ ?_
   | refine LeO.bind ?_ (fun _ => ?_)
theorem laws_toIntS.mono : ∀ a0 k, LeO (laws_toIntS.f k a0) (laws_toIntS.f (k + 1) a0) := by
 intro a0 k
 have ih0 := laws_toIntS.mono_l k
 unfold laws_toIntS.f
 repeat' first
   | (with_reducible exact ih0 _ _ _)
   | (with_reducible exact LeO.refl _)
   | (with_reducible exact LeO.none _)
   | (with_reducible refine LeO.ite ?_ ?_)
   | (with_reducible refine LeO.bind ?_ (fun _ => ?_))
   | exact ih0 _ _ _
   | exact LeO.none _
   | refine LeO.ite ?_ ?_
   | refine LeO.bind ?_ (fun _ => ?_)
set_option maxHeartbeats 8000000 in
set_option maxRecDepth 100000 in
theorem laws_toIntS.calls (k : Nat) (A0 : Option Addr) (c0 : Nat) (l0 : List Int) (r : List Int) (w : World) (hr0 : Kd.C (Kd.int .i64) w A0 l0.length l0) (hc0 : l0.length ≤ c0) (h : laws_toIntS.f k l0 = some r) :
  Calls Try.prog 34 #[.slice A0 l0.length c0] w fun e w' => ∃ v0_ : Value, e = .returned (v0_) ∧ Kd.R (Kd.int .i64) 3 w' w.heap.size (fun _ => True) v0_ r ∧ Below w.heap.size w w' := by
 have HR0 := Aside0.mk hr0
 have HC0 := Aside0.mk hc0
 clear hr0 hc0
 have HB := Aside0.mk (Below.refl w.heap.size w)
 have H : (if 0 ≤ (l0.length : Int) then (if ((l0.length : Int) : Int).toNat ≤ 35184372088832 then (laws_toIntS.l0 k l0 (List.replicate ((l0.length : Int) : Int).toNat 0) 0) else (none)) else (none)) = some r := h
 clear h
 by_cases c2 : 0 ≤ (l0.length : Int)
 ·
  rw [if_pos c2] at H
  have c2b0 := eq_true c2
  have c2b1 : decide (0 ≤ (l0.length : Int)) = true := decide_eq_true c2
  clear c2
  by_cases c3 : ((l0.length : Int) : Int).toNat ≤ 35184372088832
  ·
   rw [if_pos c3] at H
   have c3b0 := eq_true c3
   have c3b1 : decide (((l0.length : Int) : Int).toNat ≤ 35184372088832) = true := decide_eq_true c3
   clear c3
   obtain ⟨y214, hy214⟩ : ∃ y_ : List Int, y_ = (List.replicate ((l0.length : Int) : Int).toNat 0) := ⟨_, rfl⟩
   replace H : (laws_toIntS.l0 k l0 y214 0) = some r := by first | (rw [hy214]; with_reducible exact H) | (have H2_ := (Option.bind_some _ _).symm.trans H; rw [hy214]; with_reducible exact H2_) | (have H2_ := (Option.bind_some _ _).symm.trans H; with_reducible exact H2_) | with_reducible exact H | (rw [hy214]; exact H) | exact H
   have Ny214 := Aside0.mk hy214
   clear hy214
   have H' := Aside0.mk H
   clear H
   go_enter Try.func34, Try.ntmps34
   go_wp2_with (first | ((with_reducible refine gate_dst (N := 7) rfl ?_); refine Kd.R_make (Kd.int .i64) _ 3 rfl (N := 7) rfl 22 _ _ rfl (l0.length : Int) rfl rfl Try.underlying22 (.int .i64 0) 8 info3 rfl (by decide) (by omega) 0 (ok := fun _ => True) (okp := fun _ => True) rfl (fun _ hk => hk) trivial (of_decide_eq_true (by first | (with_reducible assumption) | assumption)) (Nat.le_trans (Nat.mul_le_mul_right _ (of_decide_eq_true (by first | (with_reducible assumption) | assumption) : (l0.length : Int).toNat ≤ 35184372088832)) (by omega)) (Below.refl _ _) (Nat.le_refl _) ?_; intro v215 w4 ho5 hb hg_ hnew_; clear hg_ hnew_; (first | rw [← Ny214.out] at ho5 | (simp only [Int.reduceToNat] at ho5; rw [← Ny214.out] at ho5)); have HO216 := Aside0.mk (Kd.R_lower ho5 (below_size (bU HB.out))); replace HB := Aside0.mk (below_step (bU HB.out) hb); clear hb ho5))
   go_loopg [4] k (fun kq v4 w' => ∃ (x3_1 : List Int) (x4_1 : Int), v4 = .int .i64 x4_1 ∧ Aside0 (laws_toIntS.l0 kq l0 x3_1 x4_1 = some r) ∧ Aside0 (kq ≤ k) ∧ Aside0 (Kd.R (Kd.int .i64) 3 w' w.heap.size (fun _ => True) v215 x3_1) ∧ Aside0 (Below w.heap.size w w'))
   case atStart => exact ⟨(y214), (0), (by first | rfl | (simp; done) | (simp [*]; done)), H', ⟨Nat.le_refl _⟩, ⟨by (with_reducible repeat (first | apply Kd.R_alloc | apply Kd.R_drewN | apply Kd.R_drew)); exact HO216.out⟩, ⟨by repeat (first | (with_reducible first | exact HB.out | apply below_alloc | apply pw_below_drewN | apply below_drew1) | exact HB.out)⟩⟩
   case round =>
    clear H'
    try clear c2
    try clear c2b0
    try clear c2b1
    try clear p2
    try clear c3
    try clear c3b0
    try clear c3b1
    obtain ⟨x3_1, x4_1, rfl, HA, HK1, HO_3, HB⟩ := hrel
    cases gk with
    | zero => exact absurd HA.out (by simp [laws_toIntS.l0])
    | succ k1 =>
     have H := HA.out
     clear HA
     simp only [laws_toIntS.l0] at H
     by_cases c6 : x4_1 < (l0.length : Int)
     ·
      rw [if_pos c6] at H
      have c6b0 : decide (x4_1 < (l0.length : Int)) = true := decide_eq_true c6
      clear c6
      by_cases c7 : 0 ≤ x4_1
      ·
       rw [if_pos c7] at H
       have c7b0 : decide (0 ≤ x4_1) = true := decide_eq_true c7
       clear c7
       by_cases c8 : x4_1 < (x3_1.length : Int)
       ·
        rw [if_pos c8] at H
        have c8b0 : decide (x4_1 < (x3_1.length : Int)) = true := decide_eq_true c8
        clear c8
        obtain ⟨y218, hy218⟩ : ∃ y_ : List Int, y_ = (x3_1.set (x4_1 : Int).toNat (rd l0 x4_1)) := ⟨_, rfl⟩
        replace H : (laws_toIntS.l0 k1 l0 y218 (wrap64 (x4_1 + 1))) = some r := by first | (rw [hy218]; with_reducible exact H) | (have H2_ := (Option.bind_some _ _).symm.trans H; rw [hy218]; with_reducible exact H2_) | (have H2_ := (Option.bind_some _ _).symm.trans H; with_reducible exact H2_) | with_reducible exact H | (rw [hy218]; exact H) | exact H
        have Ny218 := Aside0.mk hy218
        clear hy218
        have H' := Aside0.mk H
        clear H
        have p217 : 0 ≤ (x4_1 : Int) := of_decide_eq_true (by first | (with_reducible assumption) | assumption)
        have q217 : x4_1 < (l0.length : Int) := of_decide_eq_true (by first | (with_reducible assumption) | assumption)
        obtain ⟨ad217, e217, hx217_0⟩ := Kd.at_int HR0.out x4_1 p217 q217
        cases e217
        replace hx217_0 := (HB.out.cell (World.block_lt_of_cell? w _ hx217_0)).trans hx217_0
        replace p217 := eq_true p217
        replace q217 := eq_true q217
        have p9 : 0 ≤ (x4_1 : Int) := of_decide_eq_true (by first | (with_reducible assumption) | assumption)
        have q9 : (x4_1 : Int) < ((x3_1.length : Int) : Int) := of_decide_eq_true (by first | (with_reducible assumption) | assumption)
        obtain ⟨go9, co9, eo9, gb9, gl9, cl9, HG9⟩ := Kd.R_form HO_3.out (by omega)
        (first | cases eo9 | (injection eo9 with ea_ en_ ec_; (first | subst ea_ | (injection ea_ with ea_; subst ea_)); subst ec_; clear en_))
        have GB9 := Aside0.mk gb9
        have GG9 := Aside0.mk HG9
        clear gb9 gl9 HG9
        obtain ⟨hx9_0, hf9_0⟩ := Kd.R_celln 0 HO_3.out (x4_1 : Int) p9 q9
        replace p9 := eq_true p9
        replace q9 := eq_true q9
        have HP10 := Kd.R_putg HO_3.out (x4_1 : Int) (rd l0 x4_1)
        go_wp2_with (first | ((with_reducible refine gate_store (t := 3) (p := 20) rfl ?_); refine store_event (t := 3) (p := 20) (v := ?vo_w11) (w1 := (wr.setCell ⟨go9, (x4_1 : Int).toNat, none⟩ (.int .i64 (rd l0 x4_1)))) ?hg ?ho ?hn ?hr ?_; (case ho => rfl); (case hg => rfl); (case hn => rfl); (case hr => first | (go_simp; done) | (go_simp; rfl)); intro w11 hw; have hg : wr.grownBy w11 (some go9) := (by rw [hw]; exact HP10.2); have hp_ : Kd.R (Kd.int .i64) 3 w11 w.heap.size (fun _ => True) (.slice (some ⟨go9, 0, none⟩) x3_1.length co9) y218 := (by rw [hw, Ny218.out]; exact HP10.1); clear HP10; replace HO_3 := Aside0.mk (hp_); replace HB := Aside0.mk ((by rw [hw]; exact below_set (HB.out) GB9.out : Below w.heap.size w w11)); clear hg hw hp_))
        go_roundg k1
        case measure => have := HK1.out; omega
        case rel => exact ⟨(y218), (wrap64 (x4_1 + 1)), (by first | rfl | (simp; done) | (simp [*]; done)), H', ⟨by have := HK1.out; omega⟩, ⟨by (with_reducible repeat (first | apply Kd.R_alloc | apply Kd.R_drewN | apply Kd.R_drew)); exact HO_3.out⟩, ⟨by repeat (first | (with_reducible first | exact HB.out | apply below_alloc | apply pw_below_drewN | apply below_drew1) | exact HB.out)⟩⟩
       ·
        rw [if_neg c8] at H
        exact absurd H (by simp)
      ·
       rw [if_neg c7] at H
       exact absurd H (by simp)
     ·
      rw [if_neg c6] at H
      have c6b0 : decide (x4_1 < (l0.length : Int)) = false := decide_eq_false c6
      clear c6
      obtain rfl := Option.some.inj H
      go_wp2
      go_ret
      exact ⟨_, by first | rfl | (simp [errW_none, errW_some] <;> rfl) | (simp [*, errW_none, errW_some] <;> rfl), by (with_reducible repeat (first | apply Kd.R_alloc | apply Kd.R_drewN | apply Kd.R_drew)); exact HO_3.out, by repeat (first | (with_reducible first | exact HB.out | apply below_alloc | apply pw_below_drewN | apply below_drew1) | exact HB.out)⟩
  ·
   rw [if_neg c3] at H
   exact absurd H (by simp)
 ·
  rw [if_neg c2] at H
  exact absurd H (by simp)

/-! ### laws_toArray: function 10 -/
def laws_toArray.f (k : Nat) (l0_0 : List Int) (l0_1 : List Int) : Option (List Int × List Int) := (laws_toIntS.f k l0_0).bind fun t222 => ((laws_toIntS.f k l0_1).bind fun t225 => (some (t222, t225)))
theorem laws_toArray.mono : ∀ a0 a1 k, LeO (laws_toArray.f k a0 a1) (laws_toArray.f (k + 1) a0 a1) := by
 intro a0 a1 k
 unfold laws_toArray.f
 repeat' first
   | (with_reducible exact laws_toIntS.mono _ _)
   | (with_reducible exact LeO.refl _)
   | (with_reducible exact LeO.none _)
   | (with_reducible refine LeO.ite ?_ ?_)
   | (with_reducible refine LeO.bind ?_ (fun _ => ?_))
   | exact laws_toIntS.mono _ _
   | exact LeO.none _
   | refine LeO.ite ?_ ?_
   | refine LeO.bind ?_ (fun _ => ?_)
set_option maxHeartbeats 8000000 in
set_option maxRecDepth 100000 in
theorem laws_toArray.calls (k : Nat) (A0_0 : Option Addr) (c0_0 : Nat) (l0_0 : List Int) (A0_1 : Option Addr) (c0_1 : Nat) (l0_1 : List Int) (r1 : List Int) (r2 : List Int) (w : World) (hr0_0 : Kd.C (Kd.int .i64) w A0_0 l0_0.length l0_0) (hc0_0 : l0_0.length ≤ c0_0) (hr0_1 : Kd.C (Kd.int .i64) w A0_1 l0_1.length l0_1) (hc0_1 : l0_1.length ≤ c0_1) (h : laws_toArray.f k l0_0 l0_1 = some (r1, r2)) :
  Calls Try.prog 10 #[.agg #[.slice A0_0 l0_0.length c0_0, .slice A0_1 l0_1.length c0_1]] w fun e w' => ∃ v0_ v1_ : Value, e = .returned (.agg #[v0_, v1_]) ∧ Kd.R (Kd.int .i64) 3 w' w.heap.size (fun k_ => some k_ ≠ (v1_ : Value).ownBlock) v0_ r1 ∧ Kd.R (Kd.int .i64) 3 w' w.heap.size (fun k_ => some k_ ≠ (v0_ : Value).ownBlock) v1_ r2 ∧ Below w.heap.size w w' := by
 have hu24 := Try.underlying24
 have hu26 := Try.underlying26
 have HR0_0 := Aside0.mk hr0_0
 have HC0_0 := Aside0.mk hc0_0
 clear hr0_0 hc0_0
 have HR0_1 := Aside0.mk hr0_1
 have HC0_1 := Aside0.mk hc0_1
 clear hr0_1 hc0_1
 have HB := Aside0.mk (Below.refl w.heap.size w)
 have H : ((laws_toIntS.f k l0_0).bind fun t222 => ((laws_toIntS.f k l0_1).bind fun t225 => (some (t222, t225)))) = some (r1, r2) := h
 clear h
 replace H := Option.bind_eq_some_iff.mp H
 obtain ⟨t222, A20, H⟩ := H
 replace H : ((laws_toIntS.f k l0_1).bind fun t225 => (some (t222, t225))) = some (r1, r2) := H
 have A2 := Aside0.mk A20
 clear A20
 replace H := Option.bind_eq_some_iff.mp H
 obtain ⟨t225, A30, H⟩ := H
 replace H : (some (t222, t225)) = some (r1, r2) := H
 have A3 := Aside0.mk A30
 clear A30
 simp only [Option.some.injEq, Prod.mk.injEq] at H
 obtain ⟨rfl, rfl⟩ := H
 go_enter Try.func10, Try.ntmps10
 go_wp2_with (first | ((with_reducible refine gate_dst (N := 1) rfl ?_); refine box_event ?hg (N := 1) ?hd (cs := #[.slice A0_0 l0_0.length c0_0, .slice A0_1 l0_1.length c0_1]) (t := 24) ?hr ?_; (case hd => rfl); (case hg => rfl); (case hr => first | (go_simp; done) | (go_simp; rfl)); intro gb219 hg w4 hbox hb; have BK219 := Aside0.mk (hbox); have GW219 := Aside0.mk ((by rw [hg]; exact (below_size (bU HB.out)) : w.heap.size ≤ gb219)); have GE219 := Aside0.mk ((by rw [hg]; exact (below_size (bU HB.out)) : w.heap.size ≤ gb219)); replace HB := Aside0.mk (below_step (bU HB.out) hb); clear hb hbox hg) | ((with_reducible refine gate_dst (N := 2) rfl ?_); refine box_event ?hg (N := 2) ?hd (cs := #[.slice none 0 0, .slice none 0 0]) (t := 26) ?hr ?_; (case hd => rfl); (case hg => rfl); (case hr => first | (go_simp; done) | (go_simp; rfl)); intro gb220 hg w5 hbox hb; have BK220 := Aside0.mk (hbox); have GW220 := Aside0.mk ((by rw [hg]; exact (below_size (bS1 HB.out GE219.out)) : w.heap.size ≤ gb220)); have GE220 := Aside0.mk ((by rw [hg]; exact (below_size (bS1 HB.out GE219.out)) : w.heap.size ≤ gb220)); replace HB := Aside0.mk (below_step (bS1 HB.out GE219.out) hb); have NB219_220 := Aside0.mk ((by rw [hg]; exact Nat.ne_of_lt (blk_lt (g := gb219) (o := .cells #[.slice A0_0 l0_0.length c0_0, .slice A0_1 l0_1.length c0_1] 24 (0, 0)) (kU BK219.out)) : gb219 ≠ gb220)); have NB220_219 := Aside0.mk ((by rw [hg]; exact Nat.ne_of_gt (blk_lt (g := gb219) (o := .cells #[.slice A0_0 l0_0.length c0_0, .slice A0_1 l0_1.length c0_1] 24 (0, 0)) (kU BK219.out)) : gb220 ≠ gb219)); replace BK219 := Aside0.mk (blk_below (g := gb219) (o := .cells #[.slice A0_0 l0_0.length c0_0, .slice A0_1 l0_1.length c0_1] 24 (0, 0)) (kU BK219.out) hb); clear hb hbox hg) | ((with_reducible refine gate_dst (N := 3) rfl ?_); refine box_event ?hg (N := 3) ?hd (cs := #[.slice none 0 0, .slice none 0 0]) (t := 26) ?hr ?_; (case hd => rfl); (case hg => rfl); (case hr => first | (go_simp; done) | (go_simp; rfl)); intro gb221 hg w6 hbox hb; have BK221 := Aside0.mk (hbox); have GW221 := Aside0.mk ((by rw [hg]; exact (below_size (bS2 HB.out GE219.out GE220.out)) : w.heap.size ≤ gb221)); have GE221 := Aside0.mk ((by rw [hg]; exact (below_size (bS2 HB.out GE219.out GE220.out)) : w.heap.size ≤ gb221)); replace HB := Aside0.mk (below_step (bS2 HB.out GE219.out GE220.out) hb); have NB219_221 := Aside0.mk ((by rw [hg]; exact Nat.ne_of_lt (blk_lt (g := gb219) (o := .cells #[.slice A0_0 l0_0.length c0_0, .slice A0_1 l0_1.length c0_1] 24 (0, 0)) (kU BK219.out)) : gb219 ≠ gb221)); have NB221_219 := Aside0.mk ((by rw [hg]; exact Nat.ne_of_gt (blk_lt (g := gb219) (o := .cells #[.slice A0_0 l0_0.length c0_0, .slice A0_1 l0_1.length c0_1] 24 (0, 0)) (kU BK219.out)) : gb221 ≠ gb219)); replace BK219 := Aside0.mk (blk_below (g := gb219) (o := .cells #[.slice A0_0 l0_0.length c0_0, .slice A0_1 l0_1.length c0_1] 24 (0, 0)) (kU BK219.out) hb); have NB220_221 := Aside0.mk ((by rw [hg]; exact Nat.ne_of_lt (blk_lt (g := gb220) (o := .cells #[.slice none 0 0, .slice none 0 0] 26 (0, 0)) (kU BK220.out)) : gb220 ≠ gb221)); have NB221_220 := Aside0.mk ((by rw [hg]; exact Nat.ne_of_gt (blk_lt (g := gb220) (o := .cells #[.slice none 0 0, .slice none 0 0] 26 (0, 0)) (kU BK220.out)) : gb221 ≠ gb220)); replace BK220 := Aside0.mk (blk_below (g := gb220) (o := .cells #[.slice none 0 0, .slice none 0 0] 26 (0, 0)) (kU BK220.out) hb); clear hb hbox hg; have hnb7 := NB219_220.out; have hnc7 := NB220_219.out; have hnb8 := NB219_221.out; have hnc8 := NB221_219.out; have hcz9_0 : w6.cell? ⟨gb219, 0, none⟩ = some (.slice A0_0 l0_0.length c0_0) := (blk_cell BK219.out 0).trans rfl; have hcz9_1 : w6.cell? ⟨gb219, 1, none⟩ = some (.slice A0_1 l0_1.length c0_1) := (blk_cell BK219.out 1).trans rfl; have hfz9_0 := blk_frozen BK219.out 0; have hfz9_1 := blk_frozen BK219.out 1) | ((with_reducible refine gate_callee (f := 34) rfl ?_); refine goesL_ (some 6) rfl rfl Try.func34 (by kernel_rfl) rfl #[.slice A0_0 l0_0.length c0_0] rfl (by (try simp only [List.map_toArray, List.map_cons, List.map_nil]); first | done | rfl | (simp only [List.length_drop, List.length_take]; rfl)) ?_; (with_reducible refine (laws_toIntS.calls k _ _ l0_0 t222 _ ?side1 ?side2 A2.out).mono ?_); (case side1 => exact cU (Kd.C_below HR0_0.out HB.out)); (case side2 => exact HC0_0.out); rintro e w10 ⟨v223, rfl, ho0, hb⟩; refine ⟨_, rfl, ?_⟩; have HO224 := Aside0.mk (Kd.R_lower ho0 (below_size (bS3 HB.out GE219.out GE220.out GE221.out))); replace BK219 := Aside0.mk (blk_below (g := gb219) (o := .cells #[.slice A0_0 l0_0.length c0_0, .slice A0_1 l0_1.length c0_1] 24 (0, 0)) (kU BK219.out) hb); replace BK220 := Aside0.mk (blk_below (g := gb220) (o := .cells #[.slice none 0 0, .slice none 0 0] 26 (0, 0)) (kU BK220.out) hb); replace BK221 := Aside0.mk (blk_below (g := gb221) (o := .cells #[.slice none 0 0, .slice none 0 0] 26 (0, 0)) (kU BK221.out) hb); replace HB := Aside0.mk (below_step (bS3 HB.out GE219.out GE220.out GE221.out) hb); (try clear hb); (try clear hb2); (try clear hk); (try clear hi); (try clear ho0); obtain ⟨Ao11, co11, eo11⟩ := Kd.R_slice HO224.out; subst eo11; have hnb12 := NB221_220.out; have hnc12 := NB220_221.out; have hcz13_0 : w10.cell? ⟨gb221, 0, none⟩ = some (.slice none 0 0) := (blk_cell BK221.out 0).trans rfl; have hcz13_1 : w10.cell? ⟨gb221, 1, none⟩ = some (.slice none 0 0) := (blk_cell BK221.out 1).trans rfl; have hfz13_0 := blk_frozen BK221.out 0; have hfz13_1 := blk_frozen BK221.out 1; have hcz14_0 : w10.cell? ⟨gb219, 0, none⟩ = some (.slice A0_0 l0_0.length c0_0) := (blk_cell BK219.out 0).trans rfl; have hcz14_1 : w10.cell? ⟨gb219, 1, none⟩ = some (.slice A0_1 l0_1.length c0_1) := (blk_cell BK219.out 1).trans rfl; have hfz14_0 := blk_frozen BK219.out 0; have hfz14_1 := blk_frozen BK219.out 1) | ((with_reducible refine gate_callee (f := 34) rfl ?_); refine goesL_ (some 10) rfl rfl Try.func34 (by kernel_rfl) rfl #[.slice A0_1 l0_1.length c0_1] rfl (by (try simp only [List.map_toArray, List.map_cons, List.map_nil]); first | done | rfl | (simp only [List.length_drop, List.length_take]; rfl)) ?_; (with_reducible refine (laws_toIntS.calls k _ _ l0_1 t225 _ ?side1 ?side2 A3.out).mono ?_); (case side1 => exact Kd.C_below HR0_1.out (bS3 HB.out GE219.out GE220.out GE221.out)); (case side2 => exact HC0_1.out); rintro e w15 ⟨v226, rfl, ho0, hb⟩; refine ⟨_, rfl, ?_⟩; have HO227 := Aside0.mk (Kd.R_lower (Kd.R_new' ho0 (Kd.R_lt (by (with_reducible repeat (first | apply Kd.R_alloc | apply Kd.R_drewN | apply Kd.R_drew)); exact (Kd.R_mono (Kd.R_far (p := ⟨gb221, 0, none⟩) (Kd.R_types HO224.out BK221.out (by decide)) (fun _ hk => hk.2) (.slice Ao11 t222.length co11)) (fun _ h_ => h_.1))))) (below_size (bS3 HB.out GE219.out GE220.out GE221.out))); replace HO224 := Aside0.mk (Kd.R_elder' (by (with_reducible repeat (first | apply Kd.R_alloc | apply Kd.R_drewN | apply Kd.R_drew)); exact (Kd.R_mono (Kd.R_far (p := ⟨gb221, 0, none⟩) (Kd.R_types HO224.out BK221.out (by decide)) (fun _ hk => hk.2) (.slice Ao11 t222.length co11)) (fun _ h_ => h_.1))) (Kd.R_base ho0) hb); replace BK219 := Aside0.mk (blk_below (g := gb219) (o := .cells #[.slice A0_0 l0_0.length c0_0, .slice A0_1 l0_1.length c0_1] 24 (0, 0)) (by (with_reducible repeat (first | refine blk_drewN ?_ _ | refine blk_drew ?_ | refine blk_alloc ?_ _)); refine blk_far ?_ NB219_221.out _; (with_reducible repeat (first | refine blk_drewN ?_ _ | refine blk_drew ?_ | refine blk_alloc ?_ _)); exact BK219.out) hb); replace BK220 := Aside0.mk (blk_below (g := gb220) (o := .cells #[.slice none 0 0, .slice none 0 0] 26 (0, 0)) (by (with_reducible repeat (first | refine blk_drewN ?_ _ | refine blk_drew ?_ | refine blk_alloc ?_ _)); refine blk_far ?_ NB220_221.out _; (with_reducible repeat (first | refine blk_drewN ?_ _ | refine blk_drew ?_ | refine blk_alloc ?_ _)); exact BK220.out) hb); replace BK221 := Aside0.mk (blk_below (g := gb221) (o := .cells #[.slice Ao11 t222.length co11, .slice none 0 0] 26 (0, 0)) (by (with_reducible repeat (first | refine blk_drewN ?_ _ | refine blk_drew ?_ | refine blk_alloc ?_ _)); refine blk_put (cs := #[.slice none 0 0, .slice none 0 0]) ?_ 0 _ rfl; (with_reducible repeat (first | refine blk_drewN ?_ _ | refine blk_drew ?_ | refine blk_alloc ?_ _)); exact BK221.out) hb); replace HB := Aside0.mk (below_step (bS3 HB.out GE219.out GE220.out GE221.out) hb); (try clear hb); (try clear hb2); (try clear hk); (try clear hi); (try clear ho0); obtain ⟨Ao16, co16, eo16⟩ := Kd.R_slice HO227.out; subst eo16; have hcz17_0 : w15.cell? ⟨gb221, 0, none⟩ = some (.slice Ao11 t222.length co11) := (blk_cell BK221.out 0).trans rfl; have hcz17_1 : w15.cell? ⟨gb221, 1, none⟩ = some (.slice none 0 0) := (blk_cell BK221.out 1).trans rfl; have hfz17_0 := blk_frozen BK221.out 0; have hfz17_1 := blk_frozen BK221.out 1; have hcz18_0 : w15.cell? ⟨gb220, 0, none⟩ = some (.slice none 0 0) := (blk_cell BK220.out 0).trans rfl; have hcz18_1 : w15.cell? ⟨gb220, 1, none⟩ = some (.slice none 0 0) := (blk_cell BK220.out 1).trans rfl; have hfz18_0 := blk_frozen BK220.out 0; have hfz18_1 := blk_frozen BK220.out 1))
 refine bodyPost_ret (results_cell_row rfl _ _ gb220 26 #[.slice Ao11 t222.length co11, .slice Ao16 t225.length co16] (0, 0) _ rfl (by (with_reducible repeat (first | refine blk_drewN ?_ _ | refine blk_drew ?_ | refine blk_alloc ?_ _)); refine blk_put (cs := #[.slice Ao11 t222.length co11, .slice none 0 0]) ?_ 1 _ rfl; (with_reducible repeat (first | refine blk_drewN ?_ _ | refine blk_drew ?_ | refine blk_alloc ?_ _)); refine blk_put (cs := #[.slice none 0 0, .slice none 0 0]) ?_ 0 _ rfl; (with_reducible repeat (first | refine blk_drewN ?_ _ | refine blk_drew ?_ | refine blk_alloc ?_ _)); refine blk_far ?_ NB220_221.out _; (with_reducible repeat (first | refine blk_drewN ?_ _ | refine blk_drew ?_ | refine blk_alloc ?_ _)); exact BK220.out) Try.underlying26 rfl (by kernel_rfl)) rfl ?_
 exact ⟨_, _, by first | rfl | (simp [errW_none, errW_some] <;> rfl) | (simp [*, errW_none, errW_some] <;> rfl), by (with_reducible repeat (first | apply Kd.R_alloc | apply Kd.R_drewN | apply Kd.R_drew)); exact Kd.R_mono (Kd.R_far (p := ⟨gb220, 1, none⟩) (Kd.R_far (p := ⟨gb220, 0, none⟩) (Kd.R_far (p := ⟨gb221, 1, none⟩) (Kd.R_types (Kd.R_types HO224.out BK221.out (by decide)) BK220.out (by decide)) (fun _ hk => hk.1.2) (.slice Ao16 t225.length co16)) (fun _ hk => hk.2) (.slice Ao11 t222.length co11)) (fun _ hk => hk.2) (.slice Ao16 t225.length co16)) (fun _ hk => hk.1.1.2), by (with_reducible repeat (first | apply Kd.R_alloc | apply Kd.R_drewN | apply Kd.R_drew)); exact Kd.R_mono (Kd.R_far (p := ⟨gb220, 1, none⟩) (Kd.R_far (p := ⟨gb220, 0, none⟩) (Kd.R_far (p := ⟨gb221, 1, none⟩) (Kd.R_types (Kd.R_types HO227.out BK221.out (by decide)) BK220.out (by decide)) (fun _ hk => hk.1.2) (.slice Ao16 t225.length co16)) (fun _ hk => hk.2) (.slice Ao11 t222.length co11)) (fun _ hk => hk.2) (.slice Ao16 t225.length co16)) (fun _ hk => hk.1.1.2), by repeat (first | (with_reducible first | exact HB.out | apply below_alloc | apply pw_below_drewN | apply below_drew1 | refine below_set ?_ GE219.out | refine below_set ?_ GE220.out | refine below_set ?_ GE221.out) | exact HB.out)⟩

/-! ### impl_within: function 46 -/
def impl_within.f (a0 : Int) (a1 : Int) (a2 : Int) : Option (Bool) := if a0 ≥ a1 then (some (decide (a0 ≤ a2))) else (some false)
set_option maxHeartbeats 8000000 in
set_option maxRecDepth 100000 in
theorem impl_within.calls (a0 : Int) (a1 : Int) (a2 : Int) (r : Bool) (w : World) (h : impl_within.f a0 a1 a2 = some r) :
  Calls Try.prog 46 #[.int .i64 a0, .int .i64 a1, .int .i64 a2] w fun e w' => e = .returned (.bool r) ∧ Drawn0 w w' := by
 have H : (if a0 ≥ a1 then (some (decide (a0 ≤ a2))) else (some false)) = some r := h
 clear h
 by_cases c4 : a0 ≥ a1
 ·
  rw [if_pos c4] at H
  have c4b0 : decide (a1 ≤ a0) = true := decide_eq_true c4
  clear c4
  obtain rfl := Option.some.inj H
  go_enter Try.func46, Try.ntmps46
  go_wp2
  go_ret
  exact ⟨by first | rfl | (simp; done) | (simp [*]; done), by repeat (first | exact Drawn0.refl _ | apply Drawn0.step)⟩
 ·
  rw [if_neg c4] at H
  have c4b0 : decide (a1 ≤ a0) = false := decide_eq_false c4
  clear c4
  obtain rfl := Option.some.inj H
  go_enter Try.func46, Try.ntmps46
  go_wp2
  go_ret
  exact ⟨by first | rfl | (simp; done) | (simp [*]; done), by repeat (first | exact Drawn0.refl _ | apply Drawn0.step)⟩

end Go.Proofs.Ytbiggdlopnpcbaa.PFnExactDrop
