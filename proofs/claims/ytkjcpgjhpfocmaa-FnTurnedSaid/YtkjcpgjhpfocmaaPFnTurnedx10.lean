/- The walk of what a law reaches, for the law's row: written by a program of this session; it has no condition of its own. -/
import Derived.Test.YtkjcpgjhpfocmaaPFnTurnedx0
import Derived.Test.YtkjcpgjhpfocmaaQ
import Derived.Test.YtkjcpgjhpfocmaaPFnTurnedx3
import Derived.Test.YtkjcpgjhpfocmaaPFnTurnedx4
import Derived.Test.YtkjcpgjhpfocmaaPFnTurnedx7
import Derived.Test.YtkjcpgjhpfocmaaPFnTurnedx8
import Derived.Test.YtkjcpgjhpfocmaaPFnTurnedx9
namespace Go.Proofs.Ytkjcpgjhpfocmaa.PFnTurned
open Go.RowKit Go.Proofs.YtkjcpgjhpfocmaaW.PrintWords Go.Proofs.YtkjcpgjhpfocmaaW.PrintLast Go.Proofs.YtkjcpgjhpfocmaaW.PrintMore Go.Proofs.YtkjcpgjhpfocmaaQ
attribute [local go_sem] max2_int min2_int max_two min_two max_three min_three max_four min_four   -- for this text's walks alone
set_option linter.unusedVariables false
set_option linter.unusedSimpArgs false

/-! ### spec_l5Rows: function 26 -/
def spec_l5Rows.l0 : Nat → List (S26) → Int → List Int → List Int → Option (List Int × List Int)
 | 0, _, _, _, _ => none
 | k + 1, x0, x6, x459000, x459001 => if x6 < (x0.length : Int) then (if 0 ≤ x6 then (if x459001.length + ((rd_T26 x0 x6).f1).length < 17592186044416 then (spec_l5Rows.l0 k x0 (wrap64 (x6 + 1)) x459000 (x459001 ++ ((rd_T26 x0 x6).f1))) else (none)) else (none)) else (some (x459000, x459001))
def spec_l5Rows.f (k : Nat) (l0 : List (S26)) (l1 : List Int) : Option (List Int × List Int) := (some (([(l0.length : Int)] : List Int) : List Int)).bind fun y452 => (if y452.length + l1.length < 17592186044416 then (spec_l5Rows.l0 k l0 0 (y452 ++ l1) ([] : List Int)) else (none))
def spec_l5Rows.T5 : Bool × List (List Nat × List Nat) := (true, [([], []), ([0], [0]), ([], []), ([], []), ([2, 3], [2, 3]), ([4], [4]), ([5], [5]), ([1, 6], [1, 6]), ([0, 1, 2, 3, 4, 5, 6, 7], []), ([8, 7, 7, 0, 1, 2, 3, 4, 5, 6, 7], [7, 8])])
def spec_l5Rows.B5 : List Nat := [0, 1, 0, 0, 12, 28, 60, 127, 255, 511]
theorem spec_l5Rows.tab5 : rtab .any (opsOf Try.f26 5) = spec_l5Rows.T5 := by kernel_rfl
theorem spec_l5Rows.bits5 : waitsOk spec_l5Rows.T5.2 spec_l5Rows.B5 = true := by kernel_rfl
set_option maxHeartbeats 8000000 in
set_option maxRecDepth 100000 in
theorem spec_l5Rows.calls (k : Nat) (A0 : Option Addr) (c0 : Nat) (l0 : List (S26)) (A1 : Option Addr) (c1 : Nat) (l1 : List Int) (r1 : List Int) (r2 : List Int) (w : World) (hr0 : Kd.C k26 w A0 l0.length l0) (hc0 : l0.length ≤ c0) (hr1 : Kd.C (Kd.int .i64) w A1 l1.length l1) (hc1 : l1.length ≤ c1) (h : spec_l5Rows.f k l0 l1 = some (r1, r2)) :
  Calls Try.prog 26 #[.slice A0 l0.length c0, .slice A1 l1.length c1] w fun e w' => ∃ v0_ v1_ : Value, e = .returned (.agg #[v0_, v1_]) ∧ Kd.R (Kd.int .i64) 3 w' w.heap.size (fun k_ => some k_ ≠ (v1_ : Value).ownBlock) v0_ r1 ∧ Kd.R (Kd.int .i64) 3 w' w.heap.size (fun k_ => some k_ ≠ (v0_ : Value).ownBlock) v1_ r2 ∧ Below w.heap.size w w' := by
 have hu26 := Try.underlying26
 have HR0 := Aside0.mk hr0
 have HC0 := Aside0.mk hc0
 clear hr0 hc0
 have HR1 := Aside0.mk hr1
 have HC1 := Aside0.mk hc1
 clear hr1 hc1
 have HB := Aside0.mk (Below.refl w.heap.size w)
 have H : ((some (([(l0.length : Int)] : List Int) : List Int)).bind fun y452 => (if y452.length + l1.length < 17592186044416 then (spec_l5Rows.l0 k l0 0 (y452 ++ l1) ([] : List Int)) else (none))) = some (r1, r2) := h
 clear h
 obtain ⟨y452, hy452⟩ : ∃ y_ : List Int, y_ = (([(l0.length : Int)] : List Int)) := ⟨_, rfl⟩
 replace H : (if y452.length + l1.length < 17592186044416 then (spec_l5Rows.l0 k l0 0 (y452 ++ l1) ([] : List Int)) else (none)) = some (r1, r2) := by first | (rw [hy452]; with_reducible exact H) | (have H2_ := (Option.bind_some _ _).symm.trans H; rw [hy452]; with_reducible exact H2_) | (have H2_ := (Option.bind_some _ _).symm.trans H; with_reducible exact H2_) | with_reducible exact H | (rw [hy452]; exact H) | exact H
 have Ny452 := Aside0.mk hy452
 clear hy452
 by_cases c3 : y452.length + l1.length < 17592186044416
 ·
  rw [if_pos c3] at H
  have LMc3 := Aside0.mk c3
  clear c3
  obtain ⟨y455, hy455⟩ : ∃ y_ : List Int, y_ = (y452 ++ l1) := ⟨_, rfl⟩
  replace H : (spec_l5Rows.l0 k l0 0 y455 ([] : List Int)) = some (r1, r2) := by first | (rw [hy455]; with_reducible exact H) | (have H2_ := (Option.bind_some _ _).symm.trans H; rw [hy455]; with_reducible exact H2_) | (have H2_ := (Option.bind_some _ _).symm.trans H; with_reducible exact H2_) | with_reducible exact H | (rw [hy455]; exact H) | exact H
  have Ny455 := Aside0.mk hy455
  clear hy455
  have H' := Aside0.mk H
  clear H
  go_enter Try.func26, Try.ntmps26
  go_wp2_with (first | ((with_reducible refine gate_dst (N := 4) rfl ?_); refine box_event ?hg (N := 4) ?hd (cs := #[.slice none 0 0, .slice none 0 0]) (t := 26) ?hr ?_; (case hd => rfl); (case hg => rfl); (case hr => first | (go_simp; done) | (go_simp; rfl)); intro gb451 hg w4 hbox hb; have BK451 := Aside0.mk (hbox); have GW451 := Aside0.mk ((by rw [hg]; exact (below_size (bU HB.out)) : w.heap.size ≤ gb451)); have GE451 := Aside0.mk ((by rw [hg]; exact (below_size (bU HB.out)) : w.heap.size ≤ gb451)); replace HB := Aside0.mk (below_step (bU HB.out) hb); clear hb hbox hg) | ((with_reducible refine gate_dst (N := 9) rfl ?_); refine Kd.R_lit (Kd.int .i64) _ 3 ?hg (N := 9) ?hd (xs := ([(l0.length : Int)] : List Int)) (inner := [.int .i64 (l0.length : Int)]) (ok := fun _ => True) (okp := fun _ => True) ?hr ?hp (fun _ hk => hk) trivial (Below.refl _ _) (Nat.le_refl _) (by simp) ?_; (case hd => rfl); (case hg => rfl); (case hr => first | (go_simp; done) | (go_simp; rfl)); (case hp => exact (Reps.one (show Kd.M (Kd.int .i64) _ _ _ (l0.length : Int) [.int .i64 (l0.length : Int)] from rfl) (Reps.none _ _))); intro v453 w5 ho6 hb hg_ hnew_; clear hg_ hnew_; (first | rw [← Ny452.out] at ho6 | (simp only [Int.reduceToNat] at ho6; rw [← Ny452.out] at ho6)); have HO454 := Aside0.mk (Kd.R_lower ho6 (below_size (bS1 HB.out GE451.out))); replace BK451 := Aside0.mk (kB BK451.out hb); replace HB := Aside0.mk (below_step (bS1 HB.out GE451.out) hb); clear hb ho6) | ((with_reducible refine gate_builtin (b := .append) (xs := #[.tmp 9, .tmp 10]) rfl ?_); at_builtin; refine Kd.R_append_rows (Kd.int .i64) (w0 := w) w.heap.size rfl (.tmp 9) (.tmp 10) 24 3 (.int .i64 0) 8 rfl Try.underlying24 info3 rfl (by decide) (by omega) v453 y452 l1 _ _ _ (fun _ => True) (fun _ => False) rfl rfl ?aO ?aR (fun _ _ h => h) (fun _ h => h.elim) ?aF ?aB ?aS ?aL ?_; (case aR => exact cU (Kd.C_below HR1.out HB.out)); (case aB => exact (bS1 HB.out GE451.out)); (case aF => exact (fun _ _ => trivial)); (case aO => exact (RU HO454.out)); (case aS => exact (below_size (bS1 HB.out GE451.out))); (case aL => have := LMc3.out; omega); intro v456 w7 ho hb hg hat; rw [← Ny455.out] at ho; have n0_ := Aside0.mk (blk_grown (g := gb451) (o := .cells #[.slice none 0 0, .slice none 0 0] 26 (0, 0)) (kU BK451.out) hg (Kd.R_ne HO454.out BK451.out (by decide))); have n1_ := Aside0.mk (hb); have n2_ := Aside0.mk (ho); clear BK451; clear HB; clear HO454; have BK451 := n0_; have HB := n1_; have HO457 := n2_; clear n0_ n1_ n2_; clear ho hb hg hat; obtain ⟨Ao8, co8, eo8⟩ := Kd.R_slice HO457.out; subst eo8) | ((with_reducible refine gate_dst (N := 5) rfl ?_); refine box_event ?hg (N := 5) ?hd (cs := #[.slice none 0 0, .slice none 0 0]) (t := 26) ?hr ?_; (case hd => rfl); (case hg => rfl); (case hr => first | (go_simp; done) | (go_simp; rfl)); intro gb458 hg w9 hbox hb; replace HO457 := Aside0.mk (Kd.R_below (RU HO457.out) hb); have BK458 := Aside0.mk (hbox); have GW458 := Aside0.mk ((by rw [hg]; exact (below_size (bS1 HB.out GE451.out)) : w.heap.size ≤ gb458)); have GE458 := Aside0.mk ((by rw [hg]; exact (below_size (bS1 HB.out GE451.out)) : w.heap.size ≤ gb458)); replace HB := Aside0.mk (below_step (bS1 HB.out GE451.out) hb); have NB451_458 := Aside0.mk (kN BK451.out hg); have NB458_451 := Aside0.mk (kM BK451.out hg); replace BK451 := Aside0.mk (kB BK451.out hb); clear hb hbox hg; have hnb10 := NB458_451.out; have hnc10 := NB451_458.out; have hcz11_0 : w9.cell? ⟨gb458, 0, none⟩ = some (.slice none 0 0) := (blk_cell BK458.out 0).trans rfl; have hcz11_1 : w9.cell? ⟨gb458, 1, none⟩ = some (.slice none 0 0) := (blk_cell BK458.out 1).trans rfl; have hfz11_0 := blk_frozen BK458.out 0; have hfz11_1 := blk_frozen BK458.out 1))
  go_loopg [6] k (fun kq v6 w' => ∃ (x6_1 : Int) (x459001_1 : List Int) (u459001 : Value), v6 = .int .i64 x6_1 ∧ Aside0 (spec_l5Rows.l0 kq l0 x6_1 y455 x459001_1 = some (r1, r2)) ∧ Aside0 (kq ≤ k) ∧ Aside0 (Kd.R (Kd.int .i64) 3 w' w.heap.size (fun k_ => some k_ ≠ (u459001 : Value).ownBlock) (.slice Ao8 y455.length co8) y455) ∧ Aside0 (Kd.R (Kd.int .i64) 3 w' w.heap.size (fun k_ => some k_ ≠ ((.slice Ao8 y455.length co8) : Value).ownBlock) u459001 x459001_1) ∧ Aside0 (w'.heap[gb451]? = some (.cells #[(.slice none 0 0), (.slice none 0 0)] 26 (0, 0))) ∧ Aside0 (w'.heap[gb458]? = some (.cells #[(.slice Ao8 y455.length co8), u459001] 26 (0, 0))) ∧ Aside0 (Below w.heap.size w w'))
  case atStart => exact ⟨(0), (([] : List Int)), (.slice none 0 0), (by first | rfl | (simp; done) | (simp [*]; done)), H', ⟨Nat.le_refl _⟩, ⟨by refine RU ?_; exact Kd.R_mono (Kd.R_far (p := ⟨gb458, 1, none⟩) (Kd.R_far (p := ⟨gb458, 0, none⟩) (Kd.R_types HO457.out BK458.out (by decide)) (fun _ hk => hk.2) (.slice Ao8 y455.length co8)) (fun _ hk => hk.2) (.slice none 0 0)) (fun _ hk => (by simp [Value.ownBlock]))⟩, ⟨by first | exact Kd.R_nil _ _ _ _ _ | exact Kd.N_nil _ _ _ _ _ | exact Kd.V_nil _ _ _ _ _ | exact Kd.Q_nil _ _ _ _ _ | exact Kd.S_nil _ _ _ _ _⟩, ⟨by refine kU ?_; refine blk_far ?_ NB451_458.out _; refine kU ?_; refine blk_far ?_ NB451_458.out _; refine kU ?_; exact BK451.out⟩, ⟨by refine kU ?_; refine blk_put (cs := #[.slice Ao8 y455.length co8, .slice none 0 0]) ?_ 1 _ rfl; refine kU ?_; refine blk_put (cs := #[.slice none 0 0, .slice none 0 0]) ?_ 0 _ rfl; refine kU ?_; exact BK458.out⟩, ⟨by exact bS2 HB.out GE451.out GE458.out⟩⟩
  case round =>
   clear H'
   try clear c1
   try clear c2
   try clear p2
   try clear c3
   try clear c10
   try clear hcz11_0
   try clear hcz11_1
   try clear hfz11_0
   try clear hfz11_1
   obtain ⟨x6_1, x459001_1, u459001, rfl, HA, HK1, HO_459000, HO_459001, BK451, BK458, HB⟩ := hrel
   cases gk with
   | zero => exact absurd HA.out (by simp [spec_l5Rows.l0])
   | succ k1 =>
    have H := HA.out
    clear HA
    simp only [spec_l5Rows.l0] at H
    by_cases c12 : x6_1 < (l0.length : Int)
    ·
     rw [if_pos c12] at H
     have c12b0 : decide (x6_1 < (l0.length : Int)) = true := decide_eq_true c12
     clear c12
     by_cases c13 : 0 ≤ x6_1
     ·
      rw [if_pos c13] at H
      have c13b0 : decide (0 ≤ x6_1) = true := decide_eq_true c13
      clear c13
      by_cases c14 : x459001_1.length + ((rd_T26 l0 x6_1).f1).length < 17592186044416
      ·
       rw [if_pos c14] at H
       have LMc14 := Aside0.mk c14
       clear c14
       obtain ⟨y460, hy460⟩ : ∃ y_ : List Int, y_ = (x459001_1 ++ ((rd_T26 l0 x6_1).f1)) := ⟨_, rfl⟩
       replace H : (spec_l5Rows.l0 k1 l0 (wrap64 (x6_1 + 1)) y455 y460) = some (r1, r2) := by first | (rw [hy460]; with_reducible exact H) | (have H2_ := (Option.bind_some _ _).symm.trans H; rw [hy460]; with_reducible exact H2_) | (have H2_ := (Option.bind_some _ _).symm.trans H; with_reducible exact H2_) | with_reducible exact H | (rw [hy460]; exact H) | exact H
       have Ny460 := Aside0.mk hy460
       clear hy460
       have H' := Aside0.mk H
       clear H
       try go_wp2
       replace HO_459000 := Aside0.mk (Kd.R_drew HO_459000.out)
       replace HO_459001 := Aside0.mk (Kd.R_drew HO_459001.out)
       replace BK451 := Aside0.mk (blk_drew BK451.out)
       replace BK458 := Aside0.mk (blk_drew BK458.out)
       replace HB := Aside0.mk (below_drew1 HB.out)
       have p459 : 0 ≤ (x6_1 : Int) := of_decide_eq_true (by first | (with_reducible assumption) | assumption)
       have q459 : x6_1 < (l0.length : Int) := of_decide_eq_true (by first | (with_reducible assumption) | assumption)
       obtain ⟨ad459, A459_0, c459_0, A459_1, c459_1, e459, hx459_0, hx459_1, hl459_0, hi459_0, hl459_1, hi459_1⟩ := at_T26 HR0.out x6_1 p459 q459
       have hw459_1 := hx459_1
       have hw459_0 := hx459_0
       cases e459
       replace hx459_0 := (HB.out.cell (World.block_lt_of_cell? w _ hx459_0)).trans hx459_0
       replace hx459_1 := (HB.out.cell (World.block_lt_of_cell? w _ hx459_1)).trans hx459_1
       have HR459_0 := Aside0.mk hi459_0
       have HC459_0 := Aside0.mk hl459_0
       clear hi459_0 hl459_0
       have HR459_1 := Aside0.mk hi459_1
       have HC459_1 := Aside0.mk hl459_1
       clear hi459_1 hl459_1
       replace p459 := eq_true p459
       replace q459 := eq_true q459
       refine start_ (n := 10) (S := fun w' => w'.cell? ⟨gb458, 0, none⟩ = some (.slice Ao8 y455.length co8) ∧ w'.cell? ⟨gb458, 1, none⟩ = some (u459001) ∧ w'.cell? (ad459.add ((x6_1).toNat * 2)) = some (.slice A459_0 ((rd_T26 l0 x6_1).f0).length c459_0) ∧ w'.cell? ⟨(ad459.add ((x6_1).toNat * 2)).block, (ad459.add ((x6_1).toNat * 2)).off + 1, none⟩ = some (.slice A459_1 ((rd_T26 l0 x6_1).f1).length c459_1)) (ds := [9]) #[false, false, false, false, false, false, false, false, false, false] (by kernel_rfl) rfl rfl ⟨(blk_cell BK458.out 0).trans rfl, (blk_cell BK458.out 1).trans rfl, ((HB.out.cell (World.block_lt_of_cell? w _ hw459_0)).trans hw459_0), ((HB.out.cell (World.block_lt_of_cell? w _ hw459_1)).trans hw459_1)⟩ (fun hHeld => ?_); refine with_tabW spec_l5Rows.tab5 spec_l5Rows.bits5 (fun HT_ HW_ => ?_)
       generalize wr.drew = w15 at HO_459000 HO_459001 BK451 BK458 HB HR459_0 HR459_1 hx459_0 hx459_1 hHeld ⊢
       refine pure_ (i := 0) (N := some 19) (v := ?_) (a' := ?_) #[true, false, false, false, false, false, false, false, false, false] rfl rfl (any_of HT_.out (by kernel_rfl)) (fun _ _ _ h => h) (Or.inl ⟨by rfl, ?_⟩) ?_ ?_
       rotate_left
       ·
        intro w'
        go_simp
        with_reducible rfl
       rotate_left
       ·
        simp only [Act.put, List.setIfInBounds_toArray, List.set_cons_zero, List.set_cons_succ, i64_w, i32_w]
        rfl
       refine pure_ (i := 2) (N := some 21) (v := ?_) (a' := ?_) #[true, false, true, false, false, false, false, false, false, false] rfl rfl (any_of HT_.out (by kernel_rfl)) (fun _ _ _ h => h) (Or.inl ⟨by rfl, ?_⟩) ?_ ?_
       rotate_left
       ·
        intro w'
        go_simp
        with_reducible rfl
       rotate_left
       ·
        simp only [Act.put, List.setIfInBounds_toArray, List.set_cons_zero, List.set_cons_succ, i64_w, i32_w]
        rfl
       refine pure_ (i := 3) (N := some 22) (v := ?_) (a' := ?_) #[true, false, true, true, false, false, false, false, false, false] rfl rfl (any_of HT_.out (by kernel_rfl)) (fun _ _ _ h => h) (Or.inl ⟨by rfl, ?_⟩) ?_ ?_
       rotate_left
       ·
        intro w'
        go_simp
        with_reducible rfl
       rotate_left
       ·
        simp only [Act.put, List.setIfInBounds_toArray, List.set_cons_zero, List.set_cons_succ, i64_w, i32_w]
        rfl
       refine pure_ (i := 4) (N := some 23) (v := ?_) (a' := ?_) #[true, false, true, true, true, false, false, false, false, false] rfl rfl (any_of HT_.out (by kernel_rfl)) (fun _ _ _ h => h) (Or.inl ⟨by rfl, ?_⟩) ?_ ?_
       rotate_left
       ·
        intro w'
        go_simp
        with_reducible rfl
       rotate_left
       ·
        simp only [Act.put, List.setIfInBounds_toArray, List.set_cons_zero, List.set_cons_succ, i64_w, i32_w]
        rfl
       refine pure_ (i := 5) (N := some 24) (v := ?_) (a' := ?_) #[true, false, true, true, true, true, false, false, false, false] rfl rfl (any_of HT_.out (by kernel_rfl)) (fun _ _ _ h => h) (Or.inl ⟨by rfl, ?_⟩) ?_ ?_
       rotate_left
       ·
        intro w'
        go_simp
        with_reducible rfl
       rotate_left
       ·
        simp only [Act.put, List.setIfInBounds_toArray, List.set_cons_zero, List.set_cons_succ, i64_w, i32_w]
        rfl
       refine take_ (i := 1) (N := some 20) (v := ?_) (a' := ?_) #[true, true, true, true, true, true, false, false, false, false] rfl rfl (take_ofW HT_.out HW_.out (by kernel_rfl)) (fun _ _ _ h => h) (Or.inl ⟨by rfl, ?_⟩) hHeld ?_ ?_
       rotate_left
       ·
        rintro w' ⟨s0, s1, s2, s3⟩
        go_simp
        with_reducible rfl
       rotate_left
       ·
        simp only [Act.put, List.setIfInBounds_toArray, List.set_cons_zero, List.set_cons_succ, i64_w, i32_w]
        rfl
       refine take_ (i := 6) (N := some 25) (v := ?_) (a' := ?_) #[true, true, true, true, true, true, true, false, false, false] rfl rfl (take_ofW HT_.out HW_.out (by kernel_rfl)) (fun _ _ _ h => h) (Or.inl ⟨by rfl, ?_⟩) hHeld ?_ ?_
       rotate_left
       ·
        rintro w' ⟨s0, s1, s2, s3⟩
        go_simp
        with_reducible rfl
       rotate_left
       ·
        simp only [Act.put, List.setIfInBounds_toArray, List.set_cons_zero, List.set_cons_succ, i64_w, i32_w]
        rfl
       refine one_ (i := 7) (N := some 26) #[true, true, true, true, true, true, true, true, false, false] rfl rfl (one_of HT_.out (by kernel_rfl)) (by decide) (fun K hK => ?_)
       refine Kd.R_append_rows_step (Kd.int .i64) (w0 := w) w.heap.size (by rfl) (.tmp 20) (.tmp 25) 24 3 (.int .i64 0) 8 rfl Try.underlying24 info3 rfl (by decide) (by omega) u459001 x459001_1 ((rd_T26 l0 x6_1).f1) _ _ _ (fun k_ => some k_ ≠ (.slice Ao8 y455.length co8 : Value).ownBlock) (fun _ => False) rfl rfl ?aO ?aR (fun _ _ h => h) (fun _ h => h.elim) ?aF ?aB ?aS ?aL ?_
       (case aR => exact cU (Kd.C_below HR459_1.out HB.out))
       (case aB => exact (bS2 HB.out GE451.out GE458.out))
       (case aF => exact (fun k_ hk => Kd.fresh' (Kd.R_lt (RU HO_459000.out)) k_ hk))
       (case aO => exact (RU HO_459001.out))
       (case aS => exact (below_size (bS2 HB.out GE451.out GE458.out)))
       (case aL => have := LMc14.out; omega)
       intro v461 w16 ho hb hg hat
       rw [← Ny460.out] at ho
       have n0_ := Aside0.mk (Kd.R_after (ok := (fun _ => True)) (by refine RU ?_; exact Kd.R_mono HO_459000.out (fun _ hk => ⟨trivial, hk⟩)) hg hat)
       have n1_ := Aside0.mk (blk_grown (g := gb451) (o := .cells #[.slice none 0 0, .slice none 0 0] 26 (0, 0)) (kU BK451.out) hg (Kd.R_ne HO_459001.out BK451.out (by decide)))
       have n2_ := Aside0.mk (blk_grown (g := gb458) (o := .cells #[.slice Ao8 y455.length co8, u459001] 26 (0, 0)) (kU BK458.out) hg (Kd.R_ne HO_459001.out BK458.out (by decide)))
       have n3_ := Aside0.mk (hb)
       have n4_ := Aside0.mk (ho)
       clear HO_459000 BK451 BK458 HB HO_459001
       have HO_459000 := n0_
       have BK451 := n1_
       have BK458 := n2_
       have HB := n3_
       have HO462 := n4_
       clear n0_ n1_ n2_ n3_ n4_
       clear ho hb hg hat
       obtain ⟨Ao17, co17, eo17⟩ := Kd.R_slice HO462.out
       (first | subst eo17 | (injection eo17 with f1_ f2_ f3_; have f4_ := f1_.symm; have f5_ := f3_.symm; clear f1_ f2_ f3_; subst f4_; subst f5_))
       refine hK.out _ _ ⟨(blk_cell BK458.out 0).trans rfl, (blk_cell BK458.out 1).trans rfl, ((HB.out.cell (World.block_lt_of_cell? w _ hw459_0)).trans hw459_0), ((HB.out.cell (World.block_lt_of_cell? w _ hw459_1)).trans hw459_1)⟩ (fun hHeld => ?_)
       clear hK K
       refine norm_ (a' := ?_) ?_ ?_
       rotate_left
       ·
        show Act.put _ (some 26) _ = _
        simp only [Act.put, List.setIfInBounds_toArray, List.set_cons_zero, List.set_cons_succ, i64_w, i32_w]
        rfl
       refine pure_ (i := 8) (N := some 27) (v := ?_) (a' := ?_) #[true, true, true, true, true, true, true, true, true, false] rfl rfl (any_of HT_.out (by kernel_rfl)) (fun _ _ _ h => h) (Or.inl ⟨by rfl, ?_⟩) ?_ ?_
       rotate_left
       ·
        intro w'
        go_simp
        with_reducible rfl
       rotate_left
       ·
        simp only [Act.put, List.setIfInBounds_toArray, List.set_cons_zero, List.set_cons_succ, i64_w, i32_w]
        rfl
       refine last_ (i := 9) (N := none) #[true, true, true, true, true, true, true, true, true, true] rfl rfl (one_of HT_.out (by kernel_rfl)) (by decide) (fun K hK => ?_)
       have hs18 : w16.cell? ⟨gb458, 1, none⟩ = some (u459001) := (blk_cell BK458.out 1).trans rfl
       have hfs18 := blk_frozen BK458.out 1
       have hns18_0 := NB451_458.out
       have hms18_0 := NB458_451.out
       refine skip_ (w1 := ?_) (by rfl) rfl ?_ ?_
       rotate_left
       ·
        go_simp
        rfl
       refine hK.out _ _ ?_
       clear hK K
       refine done_ (done_of HT_.out (by kernel_rfl)) ?_
       try go_wp2
       go_roundg k1
       case measure => have := HK1.out; omega
       case rel => exact ⟨(wrap64 (x6_1 + 1)), (y460), (.slice Ao17 y460.length co17), (by first | rfl | (simp; done) | (simp [*]; done)), H', ⟨by have := HK1.out; omega⟩, ⟨by refine RU ?_; exact Kd.R_mono (Kd.R_far (p := ⟨gb458, 1, none⟩) (Kd.R_types HO_459000.out BK458.out (by decide)) (fun _ hk => hk.2) (.slice Ao17 y460.length co17)) (fun _ hk => hk.1.2)⟩, ⟨by refine RU ?_; exact Kd.R_mono (Kd.R_far (p := ⟨gb458, 1, none⟩) (Kd.R_types HO462.out BK458.out (by decide)) (fun _ hk => hk.2) (.slice Ao17 y460.length co17)) (fun _ hk => hk.1)⟩, ⟨by refine kU ?_; refine blk_far ?_ NB451_458.out _; refine kU ?_; exact BK451.out⟩, ⟨by refine kU ?_; refine blk_put (cs := #[.slice Ao8 y455.length co8, u459001]) ?_ 1 _ rfl; refine kU ?_; exact BK458.out⟩, ⟨by exact bS2 HB.out GE451.out GE458.out⟩⟩
      ·
       rw [if_neg c14] at H
       exact absurd H (by simp)
     ·
      rw [if_neg c13] at H
      exact absurd H (by simp)
    ·
     rw [if_neg c12] at H
     have c12b0 : decide (x6_1 < (l0.length : Int)) = false := decide_eq_false c12
     clear c12
     simp only [Option.some.injEq, Prod.mk.injEq] at H
     obtain ⟨rfl, rfl⟩ := H
     have hnb19 := NB458_451.out
     have hnc19 := NB451_458.out
     have hcz20_0 : wr.cell? ⟨gb458, 0, none⟩ = some (.slice Ao8 y455.length co8) := (blk_cell BK458.out 0).trans rfl
     have hcz20_1 : wr.cell? ⟨gb458, 1, none⟩ = some (u459001) := (blk_cell BK458.out 1).trans rfl
     have hfz20_0 := blk_frozen BK458.out 0
     have hfz20_1 := blk_frozen BK458.out 1
     have hcz21_0 : wr.cell? ⟨gb451, 0, none⟩ = some (.slice none 0 0) := (blk_cell BK451.out 0).trans rfl
     have hcz21_1 : wr.cell? ⟨gb451, 1, none⟩ = some (.slice none 0 0) := (blk_cell BK451.out 1).trans rfl
     have hfz21_0 := blk_frozen BK451.out 0
     have hfz21_1 := blk_frozen BK451.out 1
     obtain ⟨Ao22, co22, eo22⟩ := Kd.R_slice HO_459001.out
     subst eo22
     go_wp2
     refine bodyPost_ret (results_cell_row rfl _ _ gb451 26 #[.slice Ao8 y455.length co8, .slice Ao22 x459001_1.length co22] (0, 0) _ rfl (by refine kU ?_; refine blk_put (cs := #[.slice Ao8 y455.length co8, .slice none 0 0]) ?_ 1 _ rfl; refine kU ?_; refine blk_put (cs := #[.slice none 0 0, .slice none 0 0]) ?_ 0 _ rfl; refine kU ?_; exact BK451.out) Try.underlying26 rfl (by kernel_rfl)) rfl ?_
     exact ⟨_, _, by first | rfl | (simp [errW_none, errW_some] <;> rfl) | (simp [*, errW_none, errW_some] <;> rfl), by refine RU ?_; exact Kd.R_mono (Kd.R_far (p := ⟨gb451, 1, none⟩) (Kd.R_far (p := ⟨gb451, 0, none⟩) (Kd.R_types HO_459000.out BK451.out (by decide)) (fun _ hk => hk.2) (.slice Ao8 y455.length co8)) (fun _ hk => hk.2) (.slice Ao22 x459001_1.length co22)) (fun _ hk => hk.1), by refine RU ?_; exact Kd.R_mono (Kd.R_far (p := ⟨gb451, 1, none⟩) (Kd.R_far (p := ⟨gb451, 0, none⟩) (Kd.R_types HO_459001.out BK451.out (by decide)) (fun _ hk => hk.2) (.slice Ao8 y455.length co8)) (fun _ hk => hk.2) (.slice Ao22 x459001_1.length co22)) (fun _ hk => hk.1), by exact bS2 HB.out GE451.out GE458.out⟩
 ·
  rw [if_neg c3] at H
  exact absurd H (by simp)

/-! ### spec_Turn: function 8 -/
def spec_Turn.l0 : Nat → List (S26) → List (S26) → Int → List Int → List Int → Option (List Int × List Int × Int)
 | 0, _, _, _, _, _ => none
 | k + 1, x4, x5, x6, x464000, x464001 => if x6 ≥ 0 then (if 0 ≤ x6 then (if x6 < (x4.length : Int) then (if x5.length < 2932031007402 then (spec_Turn.l0 k x4 (x5 ++ [(⟨(rd_T26 x4 x6).f0, (rd_T26 x4 x6).f1⟩ : S26)]) (wrap64 (x6 - 1)) x464000 x464001) else (none)) else (none)) else (none)) else (if 1 ≤ (x464000.length : Int) then ((spec_l5Rows.f k x5 (x464000.drop 1)).bind fun bt483 => (some (bt483.1, bt483.2, 0))) else (none))
def spec_Turn.f (k : Nat) (l0_0 : List Int) (l0_1 : List Int) : Option (List Int × List Int × Int) := (spec_ArrayOk.f k l0_0 l0_1).bind fun t465 => (if t465 = true then (if (l0_0.length : Int) = 0 then ((spec_l3Copy.f l0_0 l0_1).bind fun bt466 => (some (bt466.1, bt466.2, 0))) else ((spec_l3Rows.f k l0_0 l0_1).bind fun t472 => (spec_Turn.l0 k t472 (([] : List (S26))) (wrap64 ((t472.length : Int) - 1)) l0_0 l0_1))) else (some (([] : List Int), ([] : List Int), 1)))
set_option maxHeartbeats 8000000 in
set_option maxRecDepth 100000 in
theorem spec_Turn.calls (k : Nat) (A0_0 : Option Addr) (c0_0 : Nat) (l0_0 : List Int) (A0_1 : Option Addr) (c0_1 : Nat) (l0_1 : List Int) (r1 : List Int) (r2 : List Int) (r3 : Int) (w : World) (hr0_0 : Kd.C (Kd.int .i64) w A0_0 l0_0.length l0_0) (hc0_0 : l0_0.length ≤ c0_0) (hr0_1 : Kd.C (Kd.int .i64) w A0_1 l0_1.length l0_1) (hc0_1 : l0_1.length ≤ c0_1) (h : spec_Turn.f k l0_0 l0_1 = some (r1, r2, r3)) :
  Calls Try.prog 8 #[.agg #[.slice A0_0 l0_0.length c0_0, .slice A0_1 l0_1.length c0_1]] w fun e w' => ∃ v0_ v1_ : Value, e = .returned (.tuple #[.agg #[v0_, v1_], .int .i64 r3]) ∧ Kd.R (Kd.int .i64) 3 w' w.heap.size (fun k_ => some k_ ≠ (v1_ : Value).ownBlock) v0_ r1 ∧ Kd.R (Kd.int .i64) 3 w' w.heap.size (fun k_ => some k_ ≠ (v0_ : Value).ownBlock) v1_ r2 ∧ Below w.heap.size w w' := by
 have hu26 := Try.underlying26
 have HR0_0 := Aside0.mk hr0_0
 have HC0_0 := Aside0.mk hc0_0
 clear hr0_0 hc0_0
 have HR0_1 := Aside0.mk hr0_1
 have HC0_1 := Aside0.mk hc0_1
 clear hr0_1 hc0_1
 have HB := Aside0.mk (Below.refl w.heap.size w)
 have H : ((spec_ArrayOk.f k l0_0 l0_1).bind fun t465 => (if t465 = true then (if (l0_0.length : Int) = 0 then ((spec_l3Copy.f l0_0 l0_1).bind fun bt466 => (some (bt466.1, bt466.2, 0))) else ((spec_l3Rows.f k l0_0 l0_1).bind fun t472 => (spec_Turn.l0 k t472 (([] : List (S26))) (wrap64 ((t472.length : Int) - 1)) l0_0 l0_1))) else (some (([] : List Int), ([] : List Int), 1)))) = some (r1, r2, r3) := h
 clear h
 replace H := Option.bind_eq_some_iff.mp H
 obtain ⟨t465, A20, H⟩ := H
 replace H : (if t465 = true then (if (l0_0.length : Int) = 0 then ((spec_l3Copy.f l0_0 l0_1).bind fun bt466 => (some (bt466.1, bt466.2, 0))) else ((spec_l3Rows.f k l0_0 l0_1).bind fun t472 => (spec_Turn.l0 k t472 (([] : List (S26))) (wrap64 ((t472.length : Int) - 1)) l0_0 l0_1))) else (some (([] : List Int), ([] : List Int), 1))) = some (r1, r2, r3) := H
 have A2 := Aside0.mk A20
 clear A20
 by_cases c3 : t465 = true
 ·
  subst c3
  have H1 : (if (l0_0.length : Int) = 0 then ((spec_l3Copy.f l0_0 l0_1).bind fun bt466 => (some (bt466.1, bt466.2, 0))) else ((spec_l3Rows.f k l0_0 l0_1).bind fun t472 => (spec_Turn.l0 k t472 (([] : List (S26))) (wrap64 ((t472.length : Int) - 1)) l0_0 l0_1))) = some (r1, r2, r3) := by rw [if_pos rfl] at H; exact H
  clear H
  have H := H1
  clear H1
  by_cases c4 : (l0_0.length : Int) = 0
  ·
   rw [if_pos c4] at H
   have c4b0 : ((l0_0.length : Int) == 0) = true := beq_iff_eq.mpr c4
   have c4b1 : ((l0_0.length : Int) != 0) = false := bne_eq_false_iff_eq.mpr c4
   clear c4
   replace H := Option.bind_eq_some_iff.mp H
   obtain ⟨⟨t466, t469⟩, A50, H⟩ := H
   replace H : (some (t466, t469, 0)) = some (r1, r2, r3) := H
   have A5 := Aside0.mk A50
   clear A50
   simp only [Option.some.injEq, Prod.mk.injEq] at H
   obtain ⟨rfl, rfl, rfl⟩ := H
   go_enter Try.func8, Try.ntmps8
   go_wp2_with (first | ((with_reducible refine gate_dst (N := 1) rfl ?_); refine box_event ?hg (N := 1) ?hd (cs := #[.slice A0_0 l0_0.length c0_0, .slice A0_1 l0_1.length c0_1]) (t := 26) ?hr ?_; (case hd => rfl); (case hg => rfl); (case hr => first | (go_simp; done) | (go_simp; rfl)); intro gb463 hg w6 hbox hb; have BK463 := Aside0.mk (hbox); have GW463 := Aside0.mk ((by rw [hg]; exact (below_size (bU HB.out)) : w.heap.size ≤ gb463)); have GE463 := Aside0.mk ((by rw [hg]; exact (below_size (bU HB.out)) : w.heap.size ≤ gb463)); replace HB := Aside0.mk (below_step (bU HB.out) hb); clear hb hbox hg) | ((with_reducible refine gate_dst (N := 2) rfl ?_); refine box_event ?hg (N := 2) ?hd (cs := #[.slice none 0 0, .slice none 0 0]) (t := 26) ?hr ?_; (case hd => rfl); (case hg => rfl); (case hr => first | (go_simp; done) | (go_simp; rfl)); intro gb464 hg w7 hbox hb; have BK464 := Aside0.mk (hbox); have GW464 := Aside0.mk ((by rw [hg]; exact (below_size (bS1 HB.out GE463.out)) : w.heap.size ≤ gb464)); have GE464 := Aside0.mk ((by rw [hg]; exact (below_size (bS1 HB.out GE463.out)) : w.heap.size ≤ gb464)); replace HB := Aside0.mk (below_step (bS1 HB.out GE463.out) hb); have NB463_464 := Aside0.mk (kN BK463.out hg); have NB464_463 := Aside0.mk (kM BK463.out hg); replace BK463 := Aside0.mk (kB BK463.out hb); clear hb hbox hg; have hnb8 := NB463_464.out; have hnc8 := NB464_463.out; have hcz9_0 : w7.cell? ⟨gb463, 0, none⟩ = some (.slice A0_0 l0_0.length c0_0) := (blk_cell BK463.out 0).trans rfl; have hcz9_1 : w7.cell? ⟨gb463, 1, none⟩ = some (.slice A0_1 l0_1.length c0_1) := (blk_cell BK463.out 1).trans rfl; have hfz9_0 := blk_frozen BK463.out 0; have hfz9_1 := blk_frozen BK463.out 1) | ((with_reducible refine gate_callee (f := 23) rfl ?_); refine goesL_ (some 8) rfl rfl Try.func23 (by kernel_rfl) rfl #[.agg #[.slice A0_0 l0_0.length c0_0, .slice A0_1 l0_1.length c0_1]] rfl lU ?_; (with_reducible refine (spec_ArrayOk.calls k _ _ l0_0 _ _ l0_1 true _ ?side1 ?side2 ?side3 ?side4 A2.out).mono ?_); (case side1 => exact cU (Kd.C_below HR0_0.out HB.out)); (case side2 => exact HC0_0.out); (case side3 => exact cU (Kd.C_below HR0_1.out HB.out)); (case side4 => exact HC0_1.out); rintro e w10 ⟨rfl, hb⟩; refine ⟨_, rfl, ?_⟩; replace BK463 := Aside0.mk (kB BK463.out hb); replace BK464 := Aside0.mk (kB BK464.out hb); replace HB := Aside0.mk (below_step (bS2 HB.out GE463.out GE464.out) hb); (try clear hb); (try clear hb2); (try clear hk); (try clear hi); have hcz11_0 : w10.cell? ⟨gb463, 0, none⟩ = some (.slice A0_0 l0_0.length c0_0) := (blk_cell BK463.out 0).trans rfl; have hcz11_1 : w10.cell? ⟨gb463, 1, none⟩ = some (.slice A0_1 l0_1.length c0_1) := (blk_cell BK463.out 1).trans rfl; have hfz11_0 := blk_frozen BK463.out 0; have hfz11_1 := blk_frozen BK463.out 1) | ((with_reducible refine gate_callee (f := 24) rfl ?_); refine goesL_ (some 16) rfl rfl Try.func24 (by kernel_rfl) rfl #[.agg #[.slice A0_0 l0_0.length c0_0, .slice A0_1 l0_1.length c0_1]] rfl lU ?_; (with_reducible refine (spec_l3Copy.calls _ _ l0_0 _ _ l0_1 t466 t469 _ ?side1 ?side2 ?side3 ?side4 A5.out).mono ?_); (case side1 => exact cU (Kd.C_below HR0_0.out HB.out)); (case side2 => exact HC0_0.out); (case side3 => exact cU (Kd.C_below HR0_1.out HB.out)); (case side4 => exact HC0_1.out); rintro e w12 ⟨v467, v470, rfl, ho0, ho1, hb⟩; refine ⟨_, rfl, ?_⟩; have HO468 := Aside0.mk (Kd.R_lower ho0 (below_size (bS2 HB.out GE463.out GE464.out))); have HO471 := Aside0.mk (Kd.R_lower ho1 (below_size (bS2 HB.out GE463.out GE464.out))); replace BK463 := Aside0.mk (kB BK463.out hb); replace BK464 := Aside0.mk (kB BK464.out hb); replace HB := Aside0.mk (below_step (bS2 HB.out GE463.out GE464.out) hb); (try clear hb); (try clear hb2); (try clear hk); (try clear hi); (try clear ho0); (try clear ho1); obtain ⟨Ao13, co13, eo13⟩ := Kd.R_slice HO468.out; subst eo13; have hcz14_0 : w12.cell? ⟨gb464, 0, none⟩ = some (.slice none 0 0) := (blk_cell BK464.out 0).trans rfl; have hcz14_1 : w12.cell? ⟨gb464, 1, none⟩ = some (.slice none 0 0) := (blk_cell BK464.out 1).trans rfl; have hfz14_0 := blk_frozen BK464.out 0; have hfz14_1 := blk_frozen BK464.out 1; obtain ⟨Ao15, co15, eo15⟩ := Kd.R_slice HO471.out; subst eo15))
   refine bodyPost_ret (results_ct rfl _ _ gb464 26 #[.slice Ao13 t466.length co13, .slice Ao15 t469.length co15] (0, 0) _ rfl (by refine kU ?_; refine blk_put (cs := #[.slice Ao13 t466.length co13, .slice none 0 0]) ?_ 1 _ rfl; refine kU ?_; refine blk_put (cs := #[.slice none 0 0, .slice none 0 0]) ?_ 0 _ rfl; refine kU ?_; exact BK464.out) Try.underlying26 rfl (by kernel_rfl)) rfl ?_
   exact ⟨_, _, by first | rfl | (simp [errW_none, errW_some] <;> rfl) | (simp [*, errW_none, errW_some] <;> rfl), by refine RU ?_; exact Kd.R_mono (Kd.R_far (p := ⟨gb464, 1, none⟩) (Kd.R_far (p := ⟨gb464, 0, none⟩) (Kd.R_types HO468.out BK464.out (by decide)) (fun _ hk => hk.2) (.slice Ao13 t466.length co13)) (fun _ hk => hk.2) (.slice Ao15 t469.length co15)) (fun _ hk => hk.1), by refine RU ?_; exact Kd.R_mono (Kd.R_far (p := ⟨gb464, 1, none⟩) (Kd.R_far (p := ⟨gb464, 0, none⟩) (Kd.R_types HO471.out BK464.out (by decide)) (fun _ hk => hk.2) (.slice Ao13 t466.length co13)) (fun _ hk => hk.2) (.slice Ao15 t469.length co15)) (fun _ hk => hk.1), by exact bS2 HB.out GE463.out GE464.out⟩
  ·
   rw [if_neg c4] at H
   have c4b0 : ((l0_0.length : Int) == 0) = false := beq_eq_false_iff_ne.mpr c4
   have c4b1 : ((l0_0.length : Int) != 0) = true := bne_iff_ne.mpr c4
   have c4b2 : ¬ (l0_0 = []) := fun h_ => c4 (by rw [h_]; rfl)
   replace H := Option.bind_eq_some_iff.mp H
   obtain ⟨t472, A160, H⟩ := H
   replace H : (spec_Turn.l0 k t472 (([] : List (S26))) (wrap64 ((t472.length : Int) - 1)) l0_0 l0_1) = some (r1, r2, r3) := H
   have A16 := Aside0.mk A160
   clear A160
   obtain ⟨y475, hy475⟩ : ∃ y_ : List (S26), y_ = (([] : List (S26))) := ⟨_, rfl⟩
   replace H : (spec_Turn.l0 k t472 y475 (wrap64 ((t472.length : Int) - 1)) l0_0 l0_1) = some (r1, r2, r3) := by first | (rw [hy475]; with_reducible exact H) | (have H2_ := (Option.bind_some _ _).symm.trans H; rw [hy475]; with_reducible exact H2_) | (have H2_ := (Option.bind_some _ _).symm.trans H; with_reducible exact H2_) | with_reducible exact H | (rw [hy475]; exact H) | exact H
   have Ny475 := Aside0.mk hy475
   clear hy475
   have H' := Aside0.mk H
   clear H
   go_enter Try.func8, Try.ntmps8
   go_wp2_with (first | ((with_reducible refine gate_dst (N := 1) rfl ?_); refine box_event ?hg (N := 1) ?hd (cs := #[.slice A0_0 l0_0.length c0_0, .slice A0_1 l0_1.length c0_1]) (t := 26) ?hr ?_; (case hd => rfl); (case hg => rfl); (case hr => first | (go_simp; done) | (go_simp; rfl)); intro gb463 hg w17 hbox hb; have BK463 := Aside0.mk (hbox); have GW463 := Aside0.mk ((by rw [hg]; exact (below_size (bU HB.out)) : w.heap.size ≤ gb463)); have GE463 := Aside0.mk ((by rw [hg]; exact (below_size (bU HB.out)) : w.heap.size ≤ gb463)); replace HB := Aside0.mk (below_step (bU HB.out) hb); clear hb hbox hg) | ((with_reducible refine gate_dst (N := 2) rfl ?_); refine box_event ?hg (N := 2) ?hd (cs := #[.slice none 0 0, .slice none 0 0]) (t := 26) ?hr ?_; (case hd => rfl); (case hg => rfl); (case hr => first | (go_simp; done) | (go_simp; rfl)); intro gb464 hg w18 hbox hb; have BK464 := Aside0.mk (hbox); have GW464 := Aside0.mk ((by rw [hg]; exact (below_size (bS1 HB.out GE463.out)) : w.heap.size ≤ gb464)); have GE464 := Aside0.mk ((by rw [hg]; exact (below_size (bS1 HB.out GE463.out)) : w.heap.size ≤ gb464)); replace HB := Aside0.mk (below_step (bS1 HB.out GE463.out) hb); have NB463_464 := Aside0.mk (kN BK463.out hg); have NB464_463 := Aside0.mk (kM BK463.out hg); replace BK463 := Aside0.mk (kB BK463.out hb); clear hb hbox hg; have hnb19 := NB463_464.out; have hnc19 := NB464_463.out; have hcz20_0 : w18.cell? ⟨gb463, 0, none⟩ = some (.slice A0_0 l0_0.length c0_0) := (blk_cell BK463.out 0).trans rfl; have hcz20_1 : w18.cell? ⟨gb463, 1, none⟩ = some (.slice A0_1 l0_1.length c0_1) := (blk_cell BK463.out 1).trans rfl; have hfz20_0 := blk_frozen BK463.out 0; have hfz20_1 := blk_frozen BK463.out 1) | ((with_reducible refine gate_callee (f := 23) rfl ?_); refine goesL_ (some 8) rfl rfl Try.func23 (by kernel_rfl) rfl #[.agg #[.slice A0_0 l0_0.length c0_0, .slice A0_1 l0_1.length c0_1]] rfl lU ?_; (with_reducible refine (spec_ArrayOk.calls k _ _ l0_0 _ _ l0_1 true _ ?side1 ?side2 ?side3 ?side4 A2.out).mono ?_); (case side1 => exact cU (Kd.C_below HR0_0.out HB.out)); (case side2 => exact HC0_0.out); (case side3 => exact cU (Kd.C_below HR0_1.out HB.out)); (case side4 => exact HC0_1.out); rintro e w21 ⟨rfl, hb⟩; refine ⟨_, rfl, ?_⟩; replace BK463 := Aside0.mk (kB BK463.out hb); replace BK464 := Aside0.mk (kB BK464.out hb); replace HB := Aside0.mk (below_step (bS2 HB.out GE463.out GE464.out) hb); (try clear hb); (try clear hb2); (try clear hk); (try clear hi); have hcz22_0 : w21.cell? ⟨gb463, 0, none⟩ = some (.slice A0_0 l0_0.length c0_0) := (blk_cell BK463.out 0).trans rfl; have hcz22_1 : w21.cell? ⟨gb463, 1, none⟩ = some (.slice A0_1 l0_1.length c0_1) := (blk_cell BK463.out 1).trans rfl; have hfz22_0 := blk_frozen BK463.out 0; have hfz22_1 := blk_frozen BK463.out 1) | ((with_reducible refine gate_callee (f := 25) rfl ?_); refine goesL_ (some 18) rfl rfl Try.func25 (by kernel_rfl) rfl #[.agg #[.slice A0_0 l0_0.length c0_0, .slice A0_1 l0_1.length c0_1]] rfl lU ?_; (with_reducible refine (spec_l3Rows.calls k _ _ l0_0 _ _ l0_1 t472 _ ?side1 ?side2 ?side3 ?side4 A16.out).mono ?_); (case side1 => exact cU (Kd.C_below HR0_0.out HB.out)); (case side2 => exact HC0_0.out); (case side3 => exact cU (Kd.C_below HR0_1.out HB.out)); (case side4 => exact HC0_1.out); rintro e w23 ⟨v473, rfl, ho0, hb⟩; refine ⟨_, rfl, ?_⟩; have HO474 := Aside0.mk (Kd.N_lower (Kd.N_mono (ok' := fun k_ => k_ ≠ gb463 ∧ k_ ≠ gb464) (Kd.S_N (Kd.S_bound ho0)) (fun k_ hk_ => ⟨(Kd.freshB (g := gb463) (o := .cells #[.slice A0_0 l0_0.length c0_0, .slice A0_1 l0_1.length c0_1] 26 (0, 0)) (kU BK463.out) k_ hk_.2.1), (Kd.freshB (g := gb464) (o := .cells #[.slice none 0 0, .slice none 0 0] 26 (0, 0)) (kU BK464.out) k_ hk_.2.1)⟩)) (below_size (bS2 HB.out GE463.out GE464.out))); replace BK463 := Aside0.mk (kB BK463.out hb); replace BK464 := Aside0.mk (kB BK464.out hb); replace HB := Aside0.mk (below_step (bS2 HB.out GE463.out GE464.out) hb); (try clear hb); (try clear hb2); (try clear hk); (try clear hi); (try clear ho0)) | ((with_reducible refine gate_dst (N := 19) rfl ?_); refine Kd.N_lit k26 _ 26 ?hg (N' := 19) ?hd (xs := ([] : List (S26))) (inner := []) (ok := (fun k_ => some k_ ≠ (v473 : Value).ownBlock ∧ k_ ≠ gb463 ∧ k_ ≠ gb464)) (okp := (fun k_ => some k_ ≠ (v473 : Value).ownBlock ∧ k_ ≠ gb463 ∧ k_ ≠ gb464)) ?hr ?hp (fun _ hk => hk) ((show ∀ k_, w23.heap.size ≤ k_ → (fun k_ => some k_ ≠ (v473 : Value).ownBlock ∧ k_ ≠ gb463 ∧ k_ ≠ gb464) k_ from fun k_ hk => ⟨Kd.fresh' (Kd.N_lt (NU HO474.out)) k_ hk, Kd.freshB (g := gb463) (o := .cells #[.slice A0_0 l0_0.length c0_0, .slice A0_1 l0_1.length c0_1] 26 (0, 0)) (kU BK463.out) k_ hk, Kd.freshB (g := gb464) (o := .cells #[.slice none 0 0, .slice none 0 0] 26 (0, 0)) (kU BK464.out) k_ hk⟩) _ (Nat.le_refl _)) (Below.refl _ _) (Nat.le_refl _) (by simp) ?_; (case hd => rfl); (case hg => rfl); (case hr => first | (go_simp; done) | (go_simp; rfl)); (case hp => exact (Reps.none _ _)); intro v476 w24 ho25 hb hg_ hnew_; clear hg_ hnew_; (first | rw [← Ny475.out] at ho25 | (simp only [Int.reduceToNat] at ho25; rw [← Ny475.out] at ho25)); replace HO474 := Aside0.mk (Kd.N_elder' (NU HO474.out) (Kd.N_base ho25) hb); have HO477 := Aside0.mk (Kd.N_lower ho25 (below_size (bS2 HB.out GE463.out GE464.out))); replace BK463 := Aside0.mk (kB BK463.out hb); replace BK464 := Aside0.mk (kB BK464.out hb); replace HB := Aside0.mk (below_step (bS2 HB.out GE463.out GE464.out) hb); clear hb ho25; obtain ⟨Ao26, co26, eo26⟩ := Kd.N_slice HO474.out; subst eo26))
   go_loopg [5, 6] k (fun kq v5 v6 w' => ∃ (x5_1 : List (S26)) (x6_1 : Int), v6 = .int .i64 x6_1 ∧ Aside0 (spec_Turn.l0 kq t472 x5_1 x6_1 l0_0 l0_1 = some (r1, r2, r3)) ∧ Aside0 (kq ≤ k) ∧ Aside0 (Kd.N k26 26 w' w.heap.size (fun k_ => some k_ ≠ (v5 : Value).ownBlock ∧ k_ ≠ gb463 ∧ k_ ≠ gb464) (.slice Ao26 t472.length co26) t472) ∧ Aside0 (Kd.N k26 26 w' w.heap.size (fun k_ => some k_ ≠ ((.slice Ao26 t472.length co26) : Value).ownBlock ∧ k_ ≠ gb463 ∧ k_ ≠ gb464) v5 x5_1) ∧ Aside0 (w'.heap[gb463]? = some (.cells #[(.slice A0_0 l0_0.length c0_0), (.slice A0_1 l0_1.length c0_1)] 26 (0, 0))) ∧ Aside0 (w'.heap[gb464]? = some (.cells #[(.slice none 0 0), (.slice none 0 0)] 26 (0, 0))) ∧ Aside0 (Below w.heap.size w w'))
   case atStart => exact ⟨(y475), (wrap64 ((t472.length : Int) - 1)), (by first | rfl | (simp; done) | (simp [*]; done)), H', ⟨Nat.le_refl _⟩, ⟨by refine NU ?_; exact Kd.N_mono HO474.out (fun _ hk => ⟨hk.2, ⟨hk.1.1, hk.1.2⟩⟩)⟩, ⟨by refine NU ?_; exact HO477.out⟩, ⟨by refine kU ?_; exact BK463.out⟩, ⟨by refine kU ?_; exact BK464.out⟩, ⟨by exact bS2 HB.out GE463.out GE464.out⟩⟩
   case round =>
    clear H'
    try clear c1
    try clear c2
    try clear p2
    try clear c3
    try clear c4
    try clear c4b0
    try clear c4b1
    try clear c4b2
    try clear p6
    try clear c8
    try clear c19
    try clear c23
    try clear c24
    try clear c25
    try clear hcz11_0
    try clear hcz11_1
    try clear hcz14_0
    try clear hcz14_1
    try clear hcz20_0
    try clear hcz20_1
    try clear hcz22_0
    try clear hcz22_1
    try clear hcz9_0
    try clear hcz9_1
    try clear hfz11_0
    try clear hfz11_1
    try clear hfz14_0
    try clear hfz14_1
    try clear hfz20_0
    try clear hfz20_1
    try clear hfz22_0
    try clear hfz22_1
    try clear hfz9_0
    try clear hfz9_1
    obtain ⟨x5_1, x6_1, rfl, HA, HK1, HO_4, HO_5, BK463, BK464, HB⟩ := hrel
    cases gk with
    | zero => exact absurd HA.out (by simp [spec_Turn.l0])
    | succ k1 =>
     have H := HA.out
     clear HA
     simp only [spec_Turn.l0] at H
     by_cases c27 : x6_1 ≥ 0
     ·
      rw [if_pos c27] at H
      have c27b0 : decide (0 ≤ x6_1) = true := decide_eq_true c27
      clear c27
      by_cases c28 : 0 ≤ x6_1
      ·
       rw [if_pos c28] at H
       have c28b0 : decide (0 ≤ x6_1) = true := decide_eq_true c28
       clear c28
       by_cases c29 : x6_1 < (t472.length : Int)
       ·
        rw [if_pos c29] at H
        have c29b0 : decide (x6_1 < (t472.length : Int)) = true := decide_eq_true c29
        clear c29
        by_cases c30 : x5_1.length < 2932031007402
        ·
         rw [if_pos c30] at H
         have LMc30 := Aside0.mk c30
         clear c30
         obtain ⟨y479, hy479⟩ : ∃ y_ : List (S26), y_ = (x5_1 ++ [(⟨(rd_T26 t472 x6_1).f0, (rd_T26 t472 x6_1).f1⟩ : S26)]) := ⟨_, rfl⟩
         replace H : (spec_Turn.l0 k1 t472 y479 (wrap64 (x6_1 - 1)) l0_0 l0_1) = some (r1, r2, r3) := by first | (rw [hy479]; with_reducible exact H) | (have H2_ := (Option.bind_some _ _).symm.trans H; rw [hy479]; with_reducible exact H2_) | (have H2_ := (Option.bind_some _ _).symm.trans H; with_reducible exact H2_) | with_reducible exact H | (rw [hy479]; exact H) | exact H
         have Ny479 := Aside0.mk hy479
         clear hy479
         have H' := Aside0.mk H
         clear H
         have p478 : 0 ≤ (x6_1 : Int) := of_decide_eq_true (by first | (with_reducible assumption) | assumption)
         have q478 : x6_1 < (t472.length : Int) := of_decide_eq_true (by first | (with_reducible assumption) | assumption)
         obtain ⟨ad478, A478_0, c478_0, A478_1, c478_1, e478, hx478_0, hx478_1, hl478_0, hi478_0, hl478_1, hi478_1⟩ := at_T26 (Kd.N_reads' HO_4.out).2.2 x6_1 p478 q478
         cases e478
         obtain ⟨ce478, hce478, hMe478, hcc478⟩ := Kd.N_get HO_4.out z26 x6_1 p478 (by first | exact q478 | exact of_decide_eq_true (by first | (with_reducible assumption) | assumption) | (have e_ := (Kd.N_reads' HO_4.out).1; omega))
         obtain ⟨ua478_0, uc478_0, ua478_1, uc478_1, rfl, ul478_0, ge478_0, ul478_1, ge478_1⟩ := k26_openF hMe478
         have hv478_0 := hcc478 0 _ rfl
         rw [Nat.add_zero] at hv478_0
         replace hv478_0 := Option.some.inj (hv478_0.symm.trans hx478_0)
         injection hv478_0 with hva_ hvn_ hvc_
         rw [hva_] at ge478_0
         rw [hvc_] at ul478_0
         have HL478_0 := Aside0.mk (show Kd.V (Kd.int .i64) 3 _ w.heap.size _ _ ((rd_T26 t472 x6_1).f0) from Kd.V_mk ul478_0 ge478_0)
         clear hva_ hvn_ hvc_ ge478_0 ul478_0
         have hv478_1 := hcc478 1 _ rfl
         rw [add_field _ _ 1 (by omega)] at hv478_1
         replace hv478_1 := Option.some.inj (hv478_1.symm.trans hx478_1)
         injection hv478_1 with hva_ hvn_ hvc_
         rw [hva_] at ge478_1
         rw [hvc_] at ul478_1
         have HL478_1 := Aside0.mk (show Kd.V (Kd.int .i64) 3 _ w.heap.size _ _ ((rd_T26 t472 x6_1).f1) from Kd.V_mk ul478_1 ge478_1)
         clear hva_ hvn_ hvc_ ge478_1 ul478_1
         clear hcc478 hce478
         have HR478_0 := Aside0.mk hi478_0
         have HC478_0 := Aside0.mk hl478_0
         clear hi478_0 hl478_0
         have HR478_1 := Aside0.mk hi478_1
         have HC478_1 := Aside0.mk hl478_1
         clear hi478_1 hl478_1
         replace p478 := eq_true p478
         replace q478 := eq_true q478
         go_wp2_with (first | ((with_reducible refine gate_builtin (b := .append) (xs := #[.tmp 27, .tmp 32]) rfl ?_); at_builtin; refine Kd.N_append k26 (w0 := w) w.heap.size rfl (.tmp 27) (.tmp 32) 40 26 (.agg #[(.slice none 0 0), (.slice none 0 0)]) 48 rfl Try.underlying40 info26 rfl (by decide) (by omega) u5 x5_1 (⟨(rd_T26 t472 x6_1).f0, (rd_T26 t472 x6_1).f1⟩ : S26) [.slice A478_0 ((rd_T26 t472 x6_1).f0).length c478_0, .slice A478_1 ((rd_T26 t472 x6_1).f1).length c478_1] (fun k_ => some k_ ≠ (.slice (some ad478) t472.length co26 : Value).ownBlock ∧ k_ ≠ gb463 ∧ k_ ≠ gb464) (fun k_ => ((fun k_ => some k_ ≠ (.slice (some ad478) t472.length co26 : Value).ownBlock ∧ k_ ≠ gb463 ∧ k_ ≠ gb464)) k_ ∧ some k_ ≠ (u5 : Value).ownBlock) rfl rfl ?aP (fun _ hk => hk) ?aF ?aO ?aB ?aS ?aL ?_; (case aP => exact (k26_mkF _ _ (⟨(rd_T26 t472 x6_1).f0, (rd_T26 t472 x6_1).f1⟩ : S26) (Kd.V_reads' (Kd.V_mono (ok' := (fun k_ => ((fun k_ => some k_ ≠ (.slice (some ad478) t472.length co26 : Value).ownBlock ∧ k_ ≠ gb463 ∧ k_ ≠ gb464)) k_ ∧ some k_ ≠ (u5 : Value).ownBlock)) (HL478_0.out) (fun k_ hk => ⟨⟨hk.2, ⟨hk.1.2.1, hk.1.2.2⟩⟩, hk.1.1⟩))).2.1 (Kd.V_F (Kd.V_mono (ok' := (fun k_ => ((fun k_ => some k_ ≠ (.slice (some ad478) t472.length co26 : Value).ownBlock ∧ k_ ≠ gb463 ∧ k_ ≠ gb464)) k_ ∧ some k_ ≠ (u5 : Value).ownBlock)) (HL478_0.out) (fun k_ hk => ⟨⟨hk.2, ⟨hk.1.2.1, hk.1.2.2⟩⟩, hk.1.1⟩))) (Kd.V_reads' (Kd.V_mono (ok' := (fun k_ => ((fun k_ => some k_ ≠ (.slice (some ad478) t472.length co26 : Value).ownBlock ∧ k_ ≠ gb463 ∧ k_ ≠ gb464)) k_ ∧ some k_ ≠ (u5 : Value).ownBlock)) (HL478_1.out) (fun k_ hk => ⟨⟨hk.2, ⟨hk.1.2.1, hk.1.2.2⟩⟩, hk.1.1⟩))).2.1 (Kd.V_F (Kd.V_mono (ok' := (fun k_ => ((fun k_ => some k_ ≠ (.slice (some ad478) t472.length co26 : Value).ownBlock ∧ k_ ≠ gb463 ∧ k_ ≠ gb464)) k_ ∧ some k_ ≠ (u5 : Value).ownBlock)) (HL478_1.out) (fun k_ hk => ⟨⟨hk.2, ⟨hk.1.2.1, hk.1.2.2⟩⟩, hk.1.1⟩))))); (case aB => exact (bS2 HB.out GE463.out GE464.out)); (case aF => exact (fun k_ hk => ⟨Kd.fresh' (Kd.N_lt (NU HO_4.out)) k_ hk, Kd.freshB (g := gb463) (o := .cells #[.slice A0_0 l0_0.length c0_0, .slice A0_1 l0_1.length c0_1] 26 (0, 0)) (kU BK463.out) k_ hk, Kd.freshB (g := gb464) (o := .cells #[.slice none 0 0, .slice none 0 0] 26 (0, 0)) (kU BK464.out) k_ hk⟩)); (case aO => exact (NU HO_5.out)); (case aS => exact (below_size (bS2 HB.out GE463.out GE464.out))); (case aL => have := LMc30.out; omega); intro v480 w31 ho hb hg hat; rw [← Ny479.out] at ho; have n0_ := Aside0.mk (Kd.N_afterv (ok := (fun k_ => k_ ≠ gb463 ∧ k_ ≠ gb464)) (by refine NU ?_; exact Kd.N_mono HO_4.out (fun _ hk => ⟨⟨hk.2.1, hk.2.2⟩, hk.1⟩)) hg hat); have n1_ := Aside0.mk (blk_grown (g := gb463) (o := .cells #[.slice A0_0 l0_0.length c0_0, .slice A0_1 l0_1.length c0_1] 26 (0, 0)) (kU BK463.out) hg (Kd.N_away HO_5.out (fun _ hk => hk.2.1))); have n2_ := Aside0.mk (blk_grown (g := gb464) (o := .cells #[.slice none 0 0, .slice none 0 0] 26 (0, 0)) (kU BK464.out) hg (Kd.N_away HO_5.out (fun _ hk => hk.2.2))); have n3_ := Aside0.mk (Kd.V_afterv (ok := (fun k_ => some k_ ≠ (.slice (some ad478) t472.length co26 : Value).ownBlock ∧ k_ ≠ gb463 ∧ k_ ≠ gb464)) (by refine VU ?_; exact Kd.V_mono HL478_0.out (fun _ hk => ⟨⟨hk.2, ⟨hk.1.2.1, hk.1.2.2⟩⟩, hk.1.1⟩)) hg hat); have n4_ := Aside0.mk (Kd.V_afterv (ok := (fun k_ => some k_ ≠ (.slice (some ad478) t472.length co26 : Value).ownBlock ∧ k_ ≠ gb463 ∧ k_ ≠ gb464)) (by refine VU ?_; exact Kd.V_mono HL478_1.out (fun _ hk => ⟨⟨hk.2, ⟨hk.1.2.1, hk.1.2.2⟩⟩, hk.1.1⟩)) hg hat); have n5_ := Aside0.mk (hb); have n6_ := Aside0.mk (ho); clear HO_4; clear BK463; clear BK464; clear HL478_0; clear HL478_1; clear HB; clear HO_5; have HO_4 := n0_; have BK463 := n1_; have BK464 := n2_; have HL478_0 := n3_; have HL478_1 := n4_; have HB := n5_; have HO481 := n6_; clear n0_ n1_ n2_ n3_ n4_ n5_ n6_; clear ho hb hg hat))
         go_roundg k1
         case measure => have := HK1.out; omega
         case rel => exact ⟨(y479), (wrap64 (x6_1 - 1)), (by first | rfl | (simp; done) | (simp [*]; done)), H', ⟨by have := HK1.out; omega⟩, ⟨by refine NU ?_; exact Kd.N_mono HO_4.out (fun _ hk => ⟨hk.2, ⟨hk.1.1, hk.1.2⟩⟩)⟩, ⟨by refine NU ?_; exact HO481.out⟩, ⟨by refine kU ?_; exact BK463.out⟩, ⟨by refine kU ?_; exact BK464.out⟩, ⟨by exact bS2 HB.out GE463.out GE464.out⟩⟩
        ·
         rw [if_neg c30] at H
         exact absurd H (by simp)
       ·
        rw [if_neg c29] at H
        exact absurd H (by simp)
      ·
       rw [if_neg c28] at H
       exact absurd H (by simp)
     ·
      rw [if_neg c27] at H
      have c27b0 : decide (0 ≤ x6_1) = false := decide_eq_false c27
      clear c27
      by_cases c32 : 1 ≤ (l0_0.length : Int)
      ·
       rw [if_pos c32] at H
       have c32b0 := eq_true c32
       have c32b1 : decide (1 ≤ (l0_0.length : Int)) = true := decide_eq_true c32
       clear c32
       replace H := Option.bind_eq_some_iff.mp H
       obtain ⟨⟨t483, t486⟩, A330, H⟩ := H
       replace H : (some (t483, t486, 0)) = some (r1, r2, r3) := H
       have A33 := Aside0.mk A330
       clear A330
       simp only [Option.some.injEq, Prod.mk.injEq] at H
       obtain ⟨rfl, rfl, rfl⟩ := H
       have hnb34 := NB463_464.out
       have hnc34 := NB464_463.out
       have hcz35_0 : wr.cell? ⟨gb463, 0, none⟩ = some (.slice A0_0 l0_0.length c0_0) := (blk_cell BK463.out 0).trans rfl
       have hcz35_1 : wr.cell? ⟨gb463, 1, none⟩ = some (.slice A0_1 l0_1.length c0_1) := (blk_cell BK463.out 1).trans rfl
       have hfz35_0 := blk_frozen BK463.out 0
       have hfz35_1 := blk_frozen BK463.out 1
       obtain ⟨i036, hi036, _, hsz36, _⟩ := info_parts info3
       obtain ⟨A36, hcut36, hA36, hC36⟩ := print_drop_of (P := Try.prog) (Value.int .i64) 0 24 3 .i64 Try.underlying24 hi036 hsz36 A0_0 c0_0 l0_0 1 (by omega) (of_decide_eq_true (by first | (with_reducible assumption) | assumption)) HC0_0.out
       have HR482 := Aside0.mk (Kd.C_of_reads (h1 := fun _ => rfl) (hA36 _ (Kd.reads_of_C HR0_0.out)))
       have HC482 := Aside0.mk hC36
       clear hA36 hC36 hi036 hsz36
       obtain ⟨Ao37, co37, eo37⟩ := Kd.N_slice HO_5.out
       subst eo37
       go_wp2_with (first | ((with_reducible refine gate_callee (f := 26) rfl ?_); refine goesL_ (some 38) rfl rfl Try.func26 (by kernel_rfl) rfl #[.slice Ao37 x5_1.length co37, .slice A36 (l0_0.drop 1).length (c0_0 - 1)] rfl (by (try simp only [List.map_toArray, List.map_cons, List.map_nil]); first | done | (rw [show (l0_0.drop 1).length = (l0_0.length - 1) from List.length_drop] <;> rfl) | rfl | (simp only [List.length_drop, List.length_take]; rfl)) ?_; (with_reducible refine (spec_l5Rows.calls k1 _ _ x5_1 _ _ (l0_0.drop 1) t483 t486 _ ?side1 ?side2 ?side3 ?side4 A33.out).mono ?_); (case side1 => exact cU (Kd.N_reads' HO_5.out).2.2); (case side2 => exact (Kd.N_reads' HO_5.out).2.1); (case side3 => exact cU (Kd.C_below HR482.out HB.out)); (case side4 => exact HC482.out); rintro e w38 ⟨v484, v487, rfl, ho0, ho1, hb⟩; refine ⟨_, rfl, ?_⟩; replace HO_4 := Aside0.mk (Kd.N_mono (Kd.N_told (Kd.N_told (Kd.N_old (NU HO_4.out) hb) (Kd.R_base ho0)) (Kd.R_base ho1)) (fun _ h_ => h_.1)); replace HO_5 := Aside0.mk (Kd.N_mono (Kd.N_told (Kd.N_told (Kd.N_old (NU HO_5.out) hb) (Kd.R_base ho0)) (Kd.R_base ho1)) (fun _ h_ => h_.1)); have HO485 := Aside0.mk (Kd.R_lower ho0 (below_size (bS2 HB.out GE463.out GE464.out))); have HO488 := Aside0.mk (Kd.R_lower ho1 (below_size (bS2 HB.out GE463.out GE464.out))); replace BK463 := Aside0.mk (kB BK463.out hb); replace BK464 := Aside0.mk (kB BK464.out hb); replace HB := Aside0.mk (below_step (bS2 HB.out GE463.out GE464.out) hb); (try clear hb); (try clear hb2); (try clear hk); (try clear hi); (try clear ho0); (try clear ho1); obtain ⟨Ao39, co39, eo39⟩ := Kd.R_slice HO485.out; subst eo39; have hcz40_0 : w38.cell? ⟨gb464, 0, none⟩ = some (.slice none 0 0) := (blk_cell BK464.out 0).trans rfl; have hcz40_1 : w38.cell? ⟨gb464, 1, none⟩ = some (.slice none 0 0) := (blk_cell BK464.out 1).trans rfl; have hfz40_0 := blk_frozen BK464.out 0; have hfz40_1 := blk_frozen BK464.out 1; obtain ⟨Ao41, co41, eo41⟩ := Kd.R_slice HO488.out; subst eo41))
       refine bodyPost_ret (results_ct rfl _ _ gb464 26 #[.slice Ao39 t483.length co39, .slice Ao41 t486.length co41] (0, 0) _ rfl (by refine kU ?_; refine blk_put (cs := #[.slice Ao39 t483.length co39, .slice none 0 0]) ?_ 1 _ rfl; refine kU ?_; refine blk_put (cs := #[.slice none 0 0, .slice none 0 0]) ?_ 0 _ rfl; refine kU ?_; exact BK464.out) Try.underlying26 rfl (by kernel_rfl)) rfl ?_
       exact ⟨_, _, by first | rfl | (simp [errW_none, errW_some] <;> rfl) | (simp [*, errW_none, errW_some] <;> rfl), by refine RU ?_; exact Kd.R_mono (Kd.R_far (p := ⟨gb464, 1, none⟩) (Kd.R_far (p := ⟨gb464, 0, none⟩) (Kd.R_types HO485.out BK464.out (by decide)) (fun _ hk => hk.2) (.slice Ao39 t483.length co39)) (fun _ hk => hk.2) (.slice Ao41 t486.length co41)) (fun _ hk => hk.1), by refine RU ?_; exact Kd.R_mono (Kd.R_far (p := ⟨gb464, 1, none⟩) (Kd.R_far (p := ⟨gb464, 0, none⟩) (Kd.R_types HO488.out BK464.out (by decide)) (fun _ hk => hk.2) (.slice Ao39 t483.length co39)) (fun _ hk => hk.2) (.slice Ao41 t486.length co41)) (fun _ hk => hk.1), by exact bS2 HB.out GE463.out GE464.out⟩
      ·
       rw [if_neg c32] at H
       exact absurd H (by simp)
 ·
  replace c3 := Bool.eq_false_iff.mpr c3
  subst c3
  have H1 : (some (([] : List Int), ([] : List Int), 1)) = some (r1, r2, r3) := by rw [if_neg (show ¬ (false = true) by decide)] at H; exact H
  clear H
  have H := H1
  clear H1
  simp only [Option.some.injEq, Prod.mk.injEq] at H
  obtain ⟨rfl, rfl, rfl⟩ := H
  go_enter Try.func8, Try.ntmps8
  go_wp2_with (first | ((with_reducible refine gate_dst (N := 1) rfl ?_); refine box_event ?hg (N := 1) ?hd (cs := #[.slice A0_0 l0_0.length c0_0, .slice A0_1 l0_1.length c0_1]) (t := 26) ?hr ?_; (case hd => rfl); (case hg => rfl); (case hr => first | (go_simp; done) | (go_simp; rfl)); intro gb463 hg w42 hbox hb; have BK463 := Aside0.mk (hbox); have GW463 := Aside0.mk ((by rw [hg]; exact (below_size (bU HB.out)) : w.heap.size ≤ gb463)); have GE463 := Aside0.mk ((by rw [hg]; exact (below_size (bU HB.out)) : w.heap.size ≤ gb463)); replace HB := Aside0.mk (below_step (bU HB.out) hb); clear hb hbox hg) | ((with_reducible refine gate_dst (N := 2) rfl ?_); refine box_event ?hg (N := 2) ?hd (cs := #[.slice none 0 0, .slice none 0 0]) (t := 26) ?hr ?_; (case hd => rfl); (case hg => rfl); (case hr => first | (go_simp; done) | (go_simp; rfl)); intro gb464 hg w43 hbox hb; have BK464 := Aside0.mk (hbox); have GW464 := Aside0.mk ((by rw [hg]; exact (below_size (bS1 HB.out GE463.out)) : w.heap.size ≤ gb464)); have GE464 := Aside0.mk ((by rw [hg]; exact (below_size (bS1 HB.out GE463.out)) : w.heap.size ≤ gb464)); replace HB := Aside0.mk (below_step (bS1 HB.out GE463.out) hb); have NB463_464 := Aside0.mk (kN BK463.out hg); have NB464_463 := Aside0.mk (kM BK463.out hg); replace BK463 := Aside0.mk (kB BK463.out hb); clear hb hbox hg; have hnb44 := NB463_464.out; have hnc44 := NB464_463.out; have hcz45_0 : w43.cell? ⟨gb463, 0, none⟩ = some (.slice A0_0 l0_0.length c0_0) := (blk_cell BK463.out 0).trans rfl; have hcz45_1 : w43.cell? ⟨gb463, 1, none⟩ = some (.slice A0_1 l0_1.length c0_1) := (blk_cell BK463.out 1).trans rfl; have hfz45_0 := blk_frozen BK463.out 0; have hfz45_1 := blk_frozen BK463.out 1) | ((with_reducible refine gate_callee (f := 23) rfl ?_); refine goesL_ (some 8) rfl rfl Try.func23 (by kernel_rfl) rfl #[.agg #[.slice A0_0 l0_0.length c0_0, .slice A0_1 l0_1.length c0_1]] rfl lU ?_; (with_reducible refine (spec_ArrayOk.calls k _ _ l0_0 _ _ l0_1 false _ ?side1 ?side2 ?side3 ?side4 A2.out).mono ?_); (case side1 => exact cU (Kd.C_below HR0_0.out HB.out)); (case side2 => exact HC0_0.out); (case side3 => exact cU (Kd.C_below HR0_1.out HB.out)); (case side4 => exact HC0_1.out); rintro e w46 ⟨rfl, hb⟩; refine ⟨_, rfl, ?_⟩; replace BK463 := Aside0.mk (kB BK463.out hb); replace BK464 := Aside0.mk (kB BK464.out hb); replace HB := Aside0.mk (below_step (bS2 HB.out GE463.out GE464.out) hb); (try clear hb); (try clear hb2); (try clear hk); (try clear hi); have hcz47_0 : w46.cell? ⟨gb464, 0, none⟩ = some (.slice none 0 0) := (blk_cell BK464.out 0).trans rfl; have hcz47_1 : w46.cell? ⟨gb464, 1, none⟩ = some (.slice none 0 0) := (blk_cell BK464.out 1).trans rfl; have hfz47_0 := blk_frozen BK464.out 0; have hfz47_1 := blk_frozen BK464.out 1))
  refine bodyPost_ret (results_ct rfl _ _ gb464 26 #[.slice none 0 0, .slice none 0 0] (0, 0) _ rfl (by refine kU ?_; refine blk_put (cs := #[.slice none 0 0, .slice none 0 0]) ?_ 1 _ rfl; refine kU ?_; refine blk_put (cs := #[.slice none 0 0, .slice none 0 0]) ?_ 0 _ rfl; refine kU ?_; exact BK464.out) Try.underlying26 rfl (by kernel_rfl)) rfl ?_
  exact ⟨_, _, by first | rfl | (simp [errW_none, errW_some] <;> rfl) | (simp [*, errW_none, errW_some] <;> rfl), by first | exact Kd.R_nil _ _ _ _ _ | exact Kd.N_nil _ _ _ _ _ | exact Kd.V_nil _ _ _ _ _ | exact Kd.Q_nil _ _ _ _ _ | exact Kd.S_nil _ _ _ _ _, by first | exact Kd.R_nil _ _ _ _ _ | exact Kd.N_nil _ _ _ _ _ | exact Kd.V_nil _ _ _ _ _ | exact Kd.Q_nil _ _ _ _ _ | exact Kd.S_nil _ _ _ _ _, by exact bS2 HB.out GE463.out GE464.out⟩

/-! ### impl_ScalarOf: function 9 -/
def impl_ScalarOf.f (a0 : Int) : Option (List Int × List Int × Bool) := (impl_NumOk.f a0).bind fun t490 => (if t490 = true then (some (([] : List Int), (([a0] : List Int)), true)) else (some (([] : List Int), ([] : List Int), false)))
set_option maxHeartbeats 8000000 in
set_option maxRecDepth 100000 in
theorem impl_ScalarOf.calls (a0 : Int) (r1 : List Int) (r2 : List Int) (r3 : Bool) (w : World) (h : impl_ScalarOf.f a0 = some (r1, r2, r3)) :
  Calls Try.prog 9 #[.int .i64 a0] w fun e w' => ∃ v0_ v1_ : Value, e = .returned (.tuple #[.agg #[v0_, v1_], .bool r3]) ∧ Kd.R (Kd.int .i64) 3 w' w.heap.size (fun k_ => some k_ ≠ (v1_ : Value).ownBlock) v0_ r1 ∧ Kd.R (Kd.int .i64) 3 w' w.heap.size (fun k_ => some k_ ≠ (v0_ : Value).ownBlock) v1_ r2 ∧ Below w.heap.size w w' := by
 have hu26 := Try.underlying26
 have HB := Aside0.mk (Below.refl w.heap.size w)
 have H : ((impl_NumOk.f a0).bind fun t490 => (if t490 = true then (some (([] : List Int), (([a0] : List Int)), true)) else (some (([] : List Int), ([] : List Int), false)))) = some (r1, r2, r3) := h
 clear h
 replace H := Option.bind_eq_some_iff.mp H
 obtain ⟨t490, A20, H⟩ := H
 replace H : (if t490 = true then (some (([] : List Int), (([a0] : List Int)), true)) else (some (([] : List Int), ([] : List Int), false))) = some (r1, r2, r3) := H
 have A2 := Aside0.mk A20
 clear A20
 by_cases c3 : t490 = true
 ·
  subst c3
  have H1 : (some (([] : List Int), (([a0] : List Int)), true)) = some (r1, r2, r3) := by rw [if_pos rfl] at H; exact H
  clear H
  have H := H1
  clear H1
  obtain ⟨y491, hy491⟩ : ∃ y_ : List Int, y_ = (([a0] : List Int)) := ⟨_, rfl⟩
  replace H : (some (([] : List Int), y491, true)) = some (r1, r2, r3) := by first | (rw [hy491]; with_reducible exact H) | (have H2_ := (Option.bind_some _ _).symm.trans H; rw [hy491]; with_reducible exact H2_) | (have H2_ := (Option.bind_some _ _).symm.trans H; with_reducible exact H2_) | with_reducible exact H | (rw [hy491]; exact H) | exact H
  have Ny491 := Aside0.mk hy491
  clear hy491
  simp only [Option.some.injEq, Prod.mk.injEq] at H
  obtain ⟨rfl, rfl, rfl⟩ := H
  go_enter Try.func9, Try.ntmps9
  go_wp2_with (first | ((with_reducible refine gate_dst (N := 2) rfl ?_); refine box_event ?hg (N := 2) ?hd (cs := #[.slice none 0 0, .slice none 0 0]) (t := 26) ?hr ?_; (case hd => rfl); (case hg => rfl); (case hr => first | (go_simp; done) | (go_simp; rfl)); intro gb489 hg w4 hbox hb; have BK489 := Aside0.mk (hbox); have GW489 := Aside0.mk ((by rw [hg]; exact (below_size (bU HB.out)) : w.heap.size ≤ gb489)); have GE489 := Aside0.mk ((by rw [hg]; exact (below_size (bU HB.out)) : w.heap.size ≤ gb489)); replace HB := Aside0.mk (below_step (bU HB.out) hb); clear hb hbox hg) | ((with_reducible refine gate_callee (f := 27) rfl ?_); refine goesL_ (some 5) rfl rfl Try.func27 (by kernel_rfl) rfl #[.int .i64 a0] rfl lU ?_; (with_reducible refine (impl_NumOk.calls a0 true _ A2.out).mono ?_); rintro e w' ⟨rfl, ⟨nd, rfl⟩⟩; refine ⟨_, rfl, ?_⟩; (try (rw [drewN_self w4]; generalize hq_ : World.drewN w4 _ = w4; have n0_ : Aside0 (w4.heap[gb489]? = some (.cells #[.slice none 0 0, .slice none 0 0] 26 (0, 0))) := ⟨by rw [← hq_]; exact (kU BK489.out)⟩; have n1_ : Aside0 (Below w.heap.size w w4) := ⟨by rw [← hq_]; exact (bS1 HB.out GE489.out)⟩; clear BK489 HB hq_; have BK489 := n0_; have HB := n1_; clear n0_ n1_))) | ((with_reducible refine gate_dst (N := 9) rfl ?_); refine Kd.R_lit (Kd.int .i64) _ 3 ?hg (N := 9) ?hd (xs := ([a0] : List Int)) (inner := [.int .i64 a0]) (ok := fun _ => True) (okp := fun _ => True) ?hr ?hp (fun _ hk => hk) trivial (Below.refl _ _) (Nat.le_refl _) (by simp) ?_; (case hd => rfl); (case hg => rfl); (case hr => first | (go_simp; done) | (go_simp; rfl)); (case hp => exact (Reps.one (show Kd.M (Kd.int .i64) _ _ _ a0 [.int .i64 a0] from rfl) (Reps.none _ _))); intro v492 w5 ho6 hb hg_ hnew_; clear hg_ hnew_; (first | rw [← Ny491.out] at ho6 | (simp only [Int.reduceToNat] at ho6; rw [← Ny491.out] at ho6)); have HO493 := Aside0.mk (Kd.R_lower ho6 (below_size (bS1 HB.out GE489.out))); replace BK489 := Aside0.mk (kB BK489.out hb); replace HB := Aside0.mk (below_step (bS1 HB.out GE489.out) hb); clear hb ho6; obtain ⟨Ao7, co7, eo7⟩ := Kd.R_slice HO493.out; subst eo7; have hcz8_0 : w5.cell? ⟨gb489, 0, none⟩ = some (.slice none 0 0) := (blk_cell BK489.out 0).trans rfl; have hcz8_1 : w5.cell? ⟨gb489, 1, none⟩ = some (.slice none 0 0) := (blk_cell BK489.out 1).trans rfl; have hfz8_0 := blk_frozen BK489.out 0; have hfz8_1 := blk_frozen BK489.out 1))
  refine bodyPost_ret (results_ct rfl _ _ gb489 26 #[.slice none 0 0, .slice Ao7 y491.length co7] (0, 0) _ rfl (by refine kU ?_; refine blk_put (cs := #[.slice none 0 0, .slice none 0 0]) ?_ 1 _ rfl; refine kU ?_; refine blk_put (cs := #[.slice none 0 0, .slice none 0 0]) ?_ 0 _ rfl; refine kU ?_; exact BK489.out) Try.underlying26 rfl (by kernel_rfl)) rfl ?_
  exact ⟨_, _, by first | rfl | (simp [errW_none, errW_some] <;> rfl) | (simp [*, errW_none, errW_some] <;> rfl), by first | exact Kd.R_nil _ _ _ _ _ | exact Kd.N_nil _ _ _ _ _ | exact Kd.V_nil _ _ _ _ _ | exact Kd.Q_nil _ _ _ _ _ | exact Kd.S_nil _ _ _ _ _, by refine RU ?_; exact Kd.R_mono (Kd.R_far (p := ⟨gb489, 1, none⟩) (Kd.R_far (p := ⟨gb489, 0, none⟩) (Kd.R_types HO493.out BK489.out (by decide)) (fun _ hk => hk.2) (.slice none 0 0)) (fun _ hk => hk.2) (.slice Ao7 y491.length co7)) (fun _ hk => (by simp [Value.ownBlock])), by exact bS1 HB.out GE489.out⟩
 ·
  replace c3 := Bool.eq_false_iff.mpr c3
  subst c3
  have H1 : (some (([] : List Int), ([] : List Int), false)) = some (r1, r2, r3) := by rw [if_neg (show ¬ (false = true) by decide)] at H; exact H
  clear H
  have H := H1
  clear H1
  simp only [Option.some.injEq, Prod.mk.injEq] at H
  obtain ⟨rfl, rfl, rfl⟩ := H
  go_enter Try.func9, Try.ntmps9
  go_wp2_with (first | ((with_reducible refine gate_dst (N := 2) rfl ?_); refine box_event ?hg (N := 2) ?hd (cs := #[.slice none 0 0, .slice none 0 0]) (t := 26) ?hr ?_; (case hd => rfl); (case hg => rfl); (case hr => first | (go_simp; done) | (go_simp; rfl)); intro gb489 hg w9 hbox hb; have BK489 := Aside0.mk (hbox); have GW489 := Aside0.mk ((by rw [hg]; exact (below_size (bU HB.out)) : w.heap.size ≤ gb489)); have GE489 := Aside0.mk ((by rw [hg]; exact (below_size (bU HB.out)) : w.heap.size ≤ gb489)); replace HB := Aside0.mk (below_step (bU HB.out) hb); clear hb hbox hg) | ((with_reducible refine gate_callee (f := 27) rfl ?_); refine goesL_ (some 5) rfl rfl Try.func27 (by kernel_rfl) rfl #[.int .i64 a0] rfl lU ?_; (with_reducible refine (impl_NumOk.calls a0 false _ A2.out).mono ?_); rintro e w' ⟨rfl, ⟨nd, rfl⟩⟩; refine ⟨_, rfl, ?_⟩; (try (rw [drewN_self w9]; generalize hq_ : World.drewN w9 _ = w9; have n0_ : Aside0 (w9.heap[gb489]? = some (.cells #[.slice none 0 0, .slice none 0 0] 26 (0, 0))) := ⟨by rw [← hq_]; exact (kU BK489.out)⟩; have n1_ : Aside0 (Below w.heap.size w w9) := ⟨by rw [← hq_]; exact (bS1 HB.out GE489.out)⟩; clear BK489 HB hq_; have BK489 := n0_; have HB := n1_; clear n0_ n1_)); have hcz10_0 : w9.cell? ⟨gb489, 0, none⟩ = some (.slice none 0 0) := (blk_cell BK489.out 0).trans rfl; have hcz10_1 : w9.cell? ⟨gb489, 1, none⟩ = some (.slice none 0 0) := (blk_cell BK489.out 1).trans rfl; have hfz10_0 := blk_frozen BK489.out 0; have hfz10_1 := blk_frozen BK489.out 1))
  refine bodyPost_ret (results_ct rfl _ _ gb489 26 #[.slice none 0 0, .slice none 0 0] (0, 0) _ rfl (by refine kU ?_; refine blk_put (cs := #[.slice none 0 0, .slice none 0 0]) ?_ 1 _ rfl; refine kU ?_; refine blk_put (cs := #[.slice none 0 0, .slice none 0 0]) ?_ 0 _ rfl; refine kU ?_; exact BK489.out) Try.underlying26 rfl (by kernel_rfl)) rfl ?_
  exact ⟨_, _, by first | rfl | (simp [errW_none, errW_some] <;> rfl) | (simp [*, errW_none, errW_some] <;> rfl), by first | exact Kd.R_nil _ _ _ _ _ | exact Kd.N_nil _ _ _ _ _ | exact Kd.V_nil _ _ _ _ _ | exact Kd.Q_nil _ _ _ _ _ | exact Kd.S_nil _ _ _ _ _, by first | exact Kd.R_nil _ _ _ _ _ | exact Kd.N_nil _ _ _ _ _ | exact Kd.V_nil _ _ _ _ _ | exact Kd.Q_nil _ _ _ _ _ | exact Kd.S_nil _ _ _ _ _, by exact bS1 HB.out GE489.out⟩

/-! ### laws_at: function 10 -/
def laws_at.f (l0 : List Int) (a1 : Int) : Option (Int) := if a1 < (l0.length : Int) then (if 0 ≤ a1 then (some (wrap64 (rd l0 a1))) else (none)) else (some (Int.tmod (wrap64 ((wrap64 (a1 * 7)) + (l0.length : Int))) 256))
set_option maxHeartbeats 8000000 in
set_option maxRecDepth 100000 in
theorem laws_at.calls (A0 : Option Addr) (c0 : Nat) (l0 : List Int) (a1 : Int) (r : Int) (w : World) (hr0 : Kd.C (Kd.int .u8) w A0 l0.length l0) (hc0 : l0.length ≤ c0) (h : laws_at.f l0 a1 = some r) :
  Calls Try.prog 10 #[.slice A0 l0.length c0, .int .i64 a1] w fun e w' => e = .returned (.int .i64 r) ∧ Drawn0 w w' := by
 have HR0 := Aside0.mk hr0
 have HC0 := Aside0.mk hc0
 clear hr0 hc0
 have H : (if a1 < (l0.length : Int) then (if 0 ≤ a1 then (some (wrap64 (rd l0 a1))) else (none)) else (some (Int.tmod (wrap64 ((wrap64 (a1 * 7)) + (l0.length : Int))) 256))) = some r := h
 clear h
 by_cases c3 : a1 < (l0.length : Int)
 ·
  rw [if_pos c3] at H
  have c3b0 : decide (a1 < (l0.length : Int)) = true := decide_eq_true c3
  clear c3
  by_cases c4 : 0 ≤ a1
  ·
   rw [if_pos c4] at H
   have c4b0 : decide (0 ≤ a1) = true := decide_eq_true c4
   clear c4
   obtain rfl := Option.some.inj H
   have p494 : 0 ≤ (a1 : Int) := of_decide_eq_true (by first | (with_reducible assumption) | assumption)
   have q494 : a1 < (l0.length : Int) := of_decide_eq_true (by first | (with_reducible assumption) | assumption)
   obtain ⟨ad494, e494, hx494_0⟩ := Kd.at_int HR0.out a1 p494 q494
   cases e494
   replace p494 := eq_true p494
   replace q494 := eq_true q494
   go_enter Try.func10, Try.ntmps10
   go_wp2
   go_ret
   exact ⟨rU, dU⟩
  ·
   rw [if_neg c4] at H
   exact absurd H (by simp)
 ·
  rw [if_neg c3] at H
  have c3b0 : decide (a1 < (l0.length : Int)) = false := decide_eq_false c3
  clear c3
  obtain rfl := Option.some.inj H
  go_enter Try.func10, Try.ntmps10
  go_wp2
  go_ret
  exact ⟨rU, dU⟩

/-! ### impl_single: function 28 -/
def impl_single.j0 : Nat → Bool → List Int → List Int → Option (Int × Int)
 | 0, _, _, _ => none
 | k + 1, x6, x496000, x496001 => if x6 = true then (some (0, 1)) else (if (x496001.length : Int) = 1 then (if 0 < (x496001.length : Int) then (some (rd x496001 0, 0)) else (none)) else (some (0, 3)))
def impl_single.f (k : Nat) (l0_0 : List Int) (l0_1 : List Int) (l1_0 : List Int) (l1_1 : List Int) : Option (Int × Int) := (impl_ArrayOk.f k l0_0 l0_1).bind fun t497 => (if t497 = true then ((impl_ArrayOk.f k l1_0 l1_1).bind fun t498 => (impl_single.j0 k (!t498) l0_0 l0_1)) else (impl_single.j0 k true l0_0 l0_1))
set_option maxHeartbeats 8000000 in
set_option maxRecDepth 100000 in
theorem impl_single.calls (k : Nat) (A0_0 : Option Addr) (c0_0 : Nat) (l0_0 : List Int) (A0_1 : Option Addr) (c0_1 : Nat) (l0_1 : List Int) (A1_0 : Option Addr) (c1_0 : Nat) (l1_0 : List Int) (A1_1 : Option Addr) (c1_1 : Nat) (l1_1 : List Int) (r1 : Int) (r2 : Int) (w : World) (hr0_0 : Kd.C (Kd.int .i64) w A0_0 l0_0.length l0_0) (hc0_0 : l0_0.length ≤ c0_0) (hr0_1 : Kd.C (Kd.int .i64) w A0_1 l0_1.length l0_1) (hc0_1 : l0_1.length ≤ c0_1) (hr1_0 : Kd.C (Kd.int .i64) w A1_0 l1_0.length l1_0) (hc1_0 : l1_0.length ≤ c1_0) (hr1_1 : Kd.C (Kd.int .i64) w A1_1 l1_1.length l1_1) (hc1_1 : l1_1.length ≤ c1_1) (h : impl_single.f k l0_0 l0_1 l1_0 l1_1 = some (r1, r2)) :
  Calls Try.prog 28 #[.agg #[.slice A0_0 l0_0.length c0_0, .slice A0_1 l0_1.length c0_1], .agg #[.slice A1_0 l1_0.length c1_0, .slice A1_1 l1_1.length c1_1]] w fun e w' => e = .returned (.tuple #[.int .i64 r1, .int .i64 r2]) ∧ Below w.heap.size w w' := by
 have hu26 := Try.underlying26
 have HR0_0 := Aside0.mk hr0_0
 have HC0_0 := Aside0.mk hc0_0
 clear hr0_0 hc0_0
 have HR0_1 := Aside0.mk hr0_1
 have HC0_1 := Aside0.mk hc0_1
 clear hr0_1 hc0_1
 have HR1_0 := Aside0.mk hr1_0
 have HC1_0 := Aside0.mk hc1_0
 clear hr1_0 hc1_0
 have HR1_1 := Aside0.mk hr1_1
 have HC1_1 := Aside0.mk hc1_1
 clear hr1_1 hc1_1
 have HB := Aside0.mk (Below.refl w.heap.size w)
 have H : ((impl_ArrayOk.f k l0_0 l0_1).bind fun t497 => (if t497 = true then ((impl_ArrayOk.f k l1_0 l1_1).bind fun t498 => (impl_single.j0 k (!t498) l0_0 l0_1)) else (impl_single.j0 k true l0_0 l0_1))) = some (r1, r2) := h
 clear h
 have HC3 := Aside0.mk H
 clear H
 go_enter Try.func28, Try.ntmps28
 go_upto_region 1 with (first | ((with_reducible refine gate_dst (N := 2) rfl ?_); refine box_event ?hg (N := 2) ?hd (cs := #[.slice A0_0 l0_0.length c0_0, .slice A0_1 l0_1.length c0_1]) (t := 26) ?hr ?_; (case hd => rfl); (case hg => rfl); (case hr => first | (go_simp; done) | (go_simp; rfl)); intro gb495 hg w4 hbox hb; have BK495 := Aside0.mk (hbox); have GW495 := Aside0.mk ((by rw [hg]; exact (below_size (bU HB.out)) : w.heap.size ≤ gb495)); have GE495 := Aside0.mk ((by rw [hg]; exact (below_size (bU HB.out)) : w.heap.size ≤ gb495)); replace HB := Aside0.mk (below_step (bU HB.out) hb); clear hb hbox hg) | ((with_reducible refine gate_dst (N := 3) rfl ?_); refine box_event ?hg (N := 3) ?hd (cs := #[.slice A1_0 l1_0.length c1_0, .slice A1_1 l1_1.length c1_1]) (t := 26) ?hr ?_; (case hd => rfl); (case hg => rfl); (case hr => first | (go_simp; done) | (go_simp; rfl)); intro gb496 hg w5 hbox hb; have BK496 := Aside0.mk (hbox); have GW496 := Aside0.mk ((by rw [hg]; exact (below_size (bS1 HB.out GE495.out)) : w.heap.size ≤ gb496)); have GE496 := Aside0.mk ((by rw [hg]; exact (below_size (bS1 HB.out GE495.out)) : w.heap.size ≤ gb496)); replace HB := Aside0.mk (below_step (bS1 HB.out GE495.out) hb); have NB495_496 := Aside0.mk (kN BK495.out hg); have NB496_495 := Aside0.mk (kM BK495.out hg); replace BK495 := Aside0.mk (kB BK495.out hb); clear hb hbox hg))
 (try simp only [Act.put, List.setIfInBounds_toArray, List.set_cons_zero, List.set_cons_succ])
 go_cut [6] (fun v6 wc => ∃ (kq : Nat) (x6_2 : Bool), v6 = .bool x6_2 ∧ Aside0 (impl_single.j0 kq x6_2 l0_0 l0_1 = some (r1, r2)) ∧ Aside0 (kq ≤ k) ∧ Aside0 (wc.heap[gb495]? = some (.cells #[(.slice A0_0 l0_0.length c0_0), (.slice A0_1 l0_1.length c0_1)] 26 (0, 0))) ∧ Aside0 (wc.heap[gb496]? = some (.cells #[(.slice A1_0 l1_0.length c1_0), (.slice A1_1 l1_1.length c1_1)] 26 (0, 0))) ∧ Aside0 (Below w.heap.size w wc))
 case first =>
  have H := HC3.out
  clear HC3
  replace H := Option.bind_eq_some_iff.mp H
  obtain ⟨t497, A60, H⟩ := H
  replace H : (if t497 = true then ((impl_ArrayOk.f k l1_0 l1_1).bind fun t498 => (impl_single.j0 k (!t498) l0_0 l0_1)) else (impl_single.j0 k true l0_0 l0_1)) = some (r1, r2) := H
  have A6 := Aside0.mk A60
  clear A60
  by_cases c7 : t497 = true
  ·
   subst c7
   have H1 : ((impl_ArrayOk.f k l1_0 l1_1).bind fun t498 => (impl_single.j0 k (!t498) l0_0 l0_1)) = some (r1, r2) := by rw [if_pos rfl] at H; exact H
   clear H
   have H := H1
   clear H1
   replace H := Option.bind_eq_some_iff.mp H
   obtain ⟨t498, A80, H⟩ := H
   replace H : (impl_single.j0 k (!t498) l0_0 l0_1) = some (r1, r2) := H
   have A8 := Aside0.mk A80
   clear A80
   have H' := Aside0.mk H
   clear H
   have hnb9 := NB495_496.out
   have hnc9 := NB496_495.out
   have hcz10_0 : w5.cell? ⟨gb495, 0, none⟩ = some (.slice A0_0 l0_0.length c0_0) := (blk_cell BK495.out 0).trans rfl
   have hcz10_1 : w5.cell? ⟨gb495, 1, none⟩ = some (.slice A0_1 l0_1.length c0_1) := (blk_cell BK495.out 1).trans rfl
   have hfz10_0 := blk_frozen BK495.out 0
   have hfz10_1 := blk_frozen BK495.out 1
   go_wp2_with (first | ((with_reducible refine gate_callee (f := 15) rfl ?_); refine goesL_ (some 8) rfl rfl Try.func15 (by kernel_rfl) rfl #[.agg #[.slice A0_0 l0_0.length c0_0, .slice A0_1 l0_1.length c0_1]] rfl lU ?_; (with_reducible refine (impl_ArrayOk.calls k _ _ l0_0 _ _ l0_1 true _ ?side1 ?side2 ?side3 ?side4 A6.out).mono ?_); (case side1 => exact cU (Kd.C_below HR0_0.out HB.out)); (case side2 => exact HC0_0.out); (case side3 => exact cU (Kd.C_below HR0_1.out HB.out)); (case side4 => exact HC0_1.out); rintro e w11 ⟨rfl, hb⟩; refine ⟨_, rfl, ?_⟩; replace BK495 := Aside0.mk (kB BK495.out hb); replace BK496 := Aside0.mk (kB BK496.out hb); replace HB := Aside0.mk (below_step (bS2 HB.out GE495.out GE496.out) hb); (try clear hb); (try clear hb2); (try clear hk); (try clear hi); have hcz12_0 : w11.cell? ⟨gb496, 0, none⟩ = some (.slice A1_0 l1_0.length c1_0) := (blk_cell BK496.out 0).trans rfl; have hcz12_1 : w11.cell? ⟨gb496, 1, none⟩ = some (.slice A1_1 l1_1.length c1_1) := (blk_cell BK496.out 1).trans rfl; have hfz12_0 := blk_frozen BK496.out 0; have hfz12_1 := blk_frozen BK496.out 1) | (go_at_call 15; (repeat rw [i64_w]); (with_reducible refine (impl_ArrayOk.calls k _ _ l1_0 _ _ l1_1 t498 _ ?side1 ?side2 ?side3 ?side4 A8.out).mono ?_); (case side1 => exact cU (Kd.C_below HR1_0.out HB.out)); (case side2 => exact HC1_0.out); (case side3 => exact cU (Kd.C_below HR1_1.out HB.out)); (case side4 => exact HC1_1.out); rintro e w13 ⟨rfl, hb⟩; replace BK495 := Aside0.mk (kB BK495.out hb); replace BK496 := Aside0.mk (kB BK496.out hb); replace HB := Aside0.mk (below_step (bS2 HB.out GE495.out GE496.out) hb); (try clear hb); (try clear hb2); (try clear hk); (try clear hi)))
   go_meet
   case rel => exact ⟨_, (!t498), (by first | rfl | (simp; done) | (simp [*]; done)), H', ⟨by first | omega | exact Nat.le_refl _⟩, ⟨by refine kU ?_; exact BK495.out⟩, ⟨by refine kU ?_; exact BK496.out⟩, ⟨by exact bS2 HB.out GE495.out GE496.out⟩⟩
  ·
   replace c7 := Bool.eq_false_iff.mpr c7
   subst c7
   have H1 : (impl_single.j0 k true l0_0 l0_1) = some (r1, r2) := by rw [if_neg (show ¬ (false = true) by decide)] at H; exact H
   clear H
   have H := H1
   clear H1
   have H' := Aside0.mk H
   clear H
   have hnb14 := NB495_496.out
   have hnc14 := NB496_495.out
   have hcz15_0 : w5.cell? ⟨gb495, 0, none⟩ = some (.slice A0_0 l0_0.length c0_0) := (blk_cell BK495.out 0).trans rfl
   have hcz15_1 : w5.cell? ⟨gb495, 1, none⟩ = some (.slice A0_1 l0_1.length c0_1) := (blk_cell BK495.out 1).trans rfl
   have hfz15_0 := blk_frozen BK495.out 0
   have hfz15_1 := blk_frozen BK495.out 1
   go_wp2_with (first | ((with_reducible refine gate_callee (f := 15) rfl ?_); refine goesL_ (some 8) rfl rfl Try.func15 (by kernel_rfl) rfl #[.agg #[.slice A0_0 l0_0.length c0_0, .slice A0_1 l0_1.length c0_1]] rfl lU ?_; (with_reducible refine (impl_ArrayOk.calls k _ _ l0_0 _ _ l0_1 false _ ?side1 ?side2 ?side3 ?side4 A6.out).mono ?_); (case side1 => exact cU (Kd.C_below HR0_0.out HB.out)); (case side2 => exact HC0_0.out); (case side3 => exact cU (Kd.C_below HR0_1.out HB.out)); (case side4 => exact HC0_1.out); rintro e w16 ⟨rfl, hb⟩; refine ⟨_, rfl, ?_⟩; replace BK495 := Aside0.mk (kB BK495.out hb); replace BK496 := Aside0.mk (kB BK496.out hb); replace HB := Aside0.mk (below_step (bS2 HB.out GE495.out GE496.out) hb); (try clear hb); (try clear hb2); (try clear hk); (try clear hi)))
   go_meet
   case rel => exact ⟨_, (true), (by first | rfl | (simp; done) | (simp [*]; done)), H', ⟨by first | omega | exact Nat.le_refl _⟩, ⟨by refine kU ?_; exact BK495.out⟩, ⟨by refine kU ?_; exact BK496.out⟩, ⟨by exact bS2 HB.out GE495.out GE496.out⟩⟩
 case rest =>
  clear HC3
  try clear c1
  try clear c2
  try clear p2
  try clear c7
  try clear c9
  try clear c14
  try clear c15
  try clear hcz10_0
  try clear hcz10_1
  try clear hcz12_0
  try clear hcz12_1
  try clear hcz15_0
  try clear hcz15_1
  try clear hfz10_0
  try clear hfz10_1
  try clear hfz12_0
  try clear hfz12_1
  try clear hfz15_0
  try clear hfz15_1
  obtain ⟨kq, x6_2, rfl, HA, HJ2, BK495, BK496, HB⟩ := hcut
  cases kq with
  | zero => exact absurd HA.out (by simp [impl_single.j0])
  | succ kj2 =>
   have H := HA.out
   clear HA
   simp only [impl_single.j0] at H
   by_cases c17 : x6_2 = true
   ·
    subst c17
    have H1 : (some (0, 1)) = some (r1, r2) := by rw [if_pos rfl] at H; exact H
    clear H
    have H := H1
    clear H1
    simp only [Option.some.injEq, Prod.mk.injEq] at H
    obtain ⟨rfl, rfl⟩ := H
    go_wp2
    go_ret2
    exact ⟨by first | rfl | (simp [errW_none, errW_some] <;> rfl) | (simp [*, errW_none, errW_some] <;> rfl), by exact bS2 HB.out GE495.out GE496.out⟩
   ·
    replace c17 := Bool.eq_false_iff.mpr c17
    subst c17
    have H1 : (if (l0_1.length : Int) = 1 then (if 0 < (l0_1.length : Int) then (some (rd l0_1 0, 0)) else (none)) else (some (0, 3))) = some (r1, r2) := by rw [if_neg (show ¬ (false = true) by decide)] at H; exact H
    clear H
    have H := H1
    clear H1
    by_cases c18 : (l0_1.length : Int) = 1
    ·
     rw [if_pos c18] at H
     have c18b0 : ((l0_1.length : Int) == 1) = true := beq_iff_eq.mpr c18
     have c18b1 : ((l0_1.length : Int) != 1) = false := bne_eq_false_iff_eq.mpr c18
     clear c18
     by_cases c19 : 0 < (l0_1.length : Int)
     ·
      rw [if_pos c19] at H
      have c19b0 : decide (0 < (l0_1.length : Int)) = true := decide_eq_true c19
      have c19b1 : decide (0 < l0_1.length) = true := decide_eq_true (by omega)
      clear c19
      simp only [Option.some.injEq, Prod.mk.injEq] at H
      obtain ⟨rfl, rfl⟩ := H
      have hnb20 := NB495_496.out
      have hnc20 := NB496_495.out
      have hcz21_0 : wc.cell? ⟨gb495, 0, none⟩ = some (.slice A0_0 l0_0.length c0_0) := (blk_cell BK495.out 0).trans rfl
      have hcz21_1 : wc.cell? ⟨gb495, 1, none⟩ = some (.slice A0_1 l0_1.length c0_1) := (blk_cell BK495.out 1).trans rfl
      have hfz21_0 := blk_frozen BK495.out 0
      have hfz21_1 := blk_frozen BK495.out 1
      have p499 : 0 ≤ (0 : Int) := (by omega)
      have q499 : 0 < (l0_1.length : Int) := of_decide_eq_true (by first | (with_reducible assumption) | assumption)
      obtain ⟨ad499, e499, hx499_0⟩ := Kd.at_int HR0_1.out 0 p499 q499
      cases e499
      have qi499 : (0 < l0_1.length) = True := eq_true (by omega)
      (try rw [show ((0 : Int)).toNat = 0 from rfl] at hx499_0)
      (try rw [Addr.add_zero'] at hx499_0)
      replace hx499_0 := (HB.out.cell (World.block_lt_of_cell? w _ hx499_0)).trans hx499_0
      replace p499 := eq_true p499
      replace q499 := eq_true q499
      go_wp2
      go_ret2
      exact ⟨by first | rfl | (simp [errW_none, errW_some] <;> rfl) | (simp [*, errW_none, errW_some] <;> rfl), by exact bS2 HB.out GE495.out GE496.out⟩
     ·
      rw [if_neg c19] at H
      exact absurd H (by simp)
    ·
     rw [if_neg c18] at H
     have c18b0 : ((l0_1.length : Int) == 1) = false := beq_eq_false_iff_ne.mpr c18
     have c18b1 : ((l0_1.length : Int) != 1) = true := bne_iff_ne.mpr c18
     simp only [Option.some.injEq, Prod.mk.injEq] at H
     obtain ⟨rfl, rfl⟩ := H
     have hnb22 := NB495_496.out
     have hnc22 := NB496_495.out
     have hcz23_0 : wc.cell? ⟨gb495, 0, none⟩ = some (.slice A0_0 l0_0.length c0_0) := (blk_cell BK495.out 0).trans rfl
     have hcz23_1 : wc.cell? ⟨gb495, 1, none⟩ = some (.slice A0_1 l0_1.length c0_1) := (blk_cell BK495.out 1).trans rfl
     have hfz23_0 := blk_frozen BK495.out 0
     have hfz23_1 := blk_frozen BK495.out 1
     go_wp2
     go_ret2
     exact ⟨by first | rfl | (simp [errW_none, errW_some] <;> rfl) | (simp [*, errW_none, errW_some] <;> rfl), by exact bS2 HB.out GE495.out GE496.out⟩

end Go.Proofs.Ytkjcpgjhpfocmaa.PFnTurned
