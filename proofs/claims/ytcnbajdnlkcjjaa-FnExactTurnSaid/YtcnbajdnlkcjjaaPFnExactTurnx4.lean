/- The walk of what a law reaches, for the law's row: written by a program of this session; it has no condition of its own. -/
import Derived.Test.YtcnbajdnlkcjjaaPFnExactTurnx0
import Derived.Test.YtcnbajdnlkcjjaaQ
import Derived.Test.YtcnbajdnlkcjjaaPFnExactTurnx2
import Derived.Test.YtcnbajdnlkcjjaaPFnExactTurnx3
namespace Go.Proofs.Ytcnbajdnlkcjjaa.PFnExactTurn
open Go.RowKit Go.Proofs.YtcnbajdnlkcjjaaW.PrintWords Go.Proofs.YtcnbajdnlkcjjaaW.PrintLast Go.Proofs.YtcnbajdnlkcjjaaW.PrintMore Go.Proofs.YtcnbajdnlkcjjaaQ
attribute [local go_sem] max2_int min2_int max_two min_two max_three min_three max_four min_four   -- for this text's walks alone
set_option linter.unusedVariables false
set_option linter.unusedSimpArgs false

/-! ### spec_l5Rows: function 76 -/
def spec_l5Rows.l0 : Nat → List (S26) → Int → List Int → List Int → Option (List Int × List Int)
 | 0, _, _, _, _ => none
 | k + 1, x0, x6, x189000, x189001 => if x6 < (x0.length : Int) then (if 0 ≤ x6 then (if x189001.length + ((rd_T26 x0 x6).f1).length < 17592186044416 then (spec_l5Rows.l0 k x0 (wrap64 (x6 + 1)) x189000 (x189001 ++ ((rd_T26 x0 x6).f1))) else (none)) else (none)) else (some (x189000, x189001))
def spec_l5Rows.f (k : Nat) (l0 : List (S26)) (l1 : List Int) : Option (List Int × List Int) := (some (([(l0.length : Int)] : List Int) : List Int)).bind fun y182 => (if y182.length + l1.length < 17592186044416 then (spec_l5Rows.l0 k l0 0 (y182 ++ l1) ([] : List Int)) else (none))
def spec_l5Rows.T5 : Bool × List (List Nat × List Nat) := (true, [([], []), ([0], [0]), ([], []), ([], []), ([2, 3], [2, 3]), ([4], [4]), ([5], [5]), ([1, 6], [1, 6]), ([0, 1, 2, 3, 4, 5, 6, 7], []), ([8, 7, 7, 0, 1, 2, 3, 4, 5, 6, 7], [7, 8])])
def spec_l5Rows.B5 : List Nat := [0, 1, 0, 0, 12, 28, 60, 127, 255, 511]
theorem spec_l5Rows.tab5 : rtab .any (opsOf Try.f76 5) = spec_l5Rows.T5 := by kernel_rfl
theorem spec_l5Rows.bits5 : waitsOk spec_l5Rows.T5.2 spec_l5Rows.B5 = true := by kernel_rfl
set_option maxHeartbeats 8000000 in
set_option maxRecDepth 100000 in
theorem spec_l5Rows.calls (k : Nat) (A0 : Option Addr) (c0 : Nat) (l0 : List (S26)) (A1 : Option Addr) (c1 : Nat) (l1 : List Int) (r1 : List Int) (r2 : List Int) (w : World) (hr0 : Kd.C k26 w A0 l0.length l0) (hc0 : l0.length ≤ c0) (hr1 : Kd.C (Kd.int .i64) w A1 l1.length l1) (hc1 : l1.length ≤ c1) (h : spec_l5Rows.f k l0 l1 = some (r1, r2)) :
  Calls Try.prog 76 #[.slice A0 l0.length c0, .slice A1 l1.length c1] w fun e w' => ∃ v0_ v1_ : Value, e = .returned (.agg #[v0_, v1_]) ∧ Kd.R (Kd.int .i64) 3 w' w.heap.size (fun k_ => some k_ ≠ (v1_ : Value).ownBlock) v0_ r1 ∧ Kd.R (Kd.int .i64) 3 w' w.heap.size (fun k_ => some k_ ≠ (v0_ : Value).ownBlock) v1_ r2 ∧ Below w.heap.size w w' := by
 have hu26 := Try.underlying26
 have HR0 := Aside0.mk hr0
 have HC0 := Aside0.mk hc0
 clear hr0 hc0
 have HR1 := Aside0.mk hr1
 have HC1 := Aside0.mk hc1
 clear hr1 hc1
 have HB := Aside0.mk (Below.refl w.heap.size w)
 have H : ((some (([(l0.length : Int)] : List Int) : List Int)).bind fun y182 => (if y182.length + l1.length < 17592186044416 then (spec_l5Rows.l0 k l0 0 (y182 ++ l1) ([] : List Int)) else (none))) = some (r1, r2) := h
 clear h
 obtain ⟨y182, hy182⟩ : ∃ y_ : List Int, y_ = (([(l0.length : Int)] : List Int)) := ⟨_, rfl⟩
 replace H : (if y182.length + l1.length < 17592186044416 then (spec_l5Rows.l0 k l0 0 (y182 ++ l1) ([] : List Int)) else (none)) = some (r1, r2) := by first | (rw [hy182]; with_reducible exact H) | (have H2_ := (Option.bind_some _ _).symm.trans H; rw [hy182]; with_reducible exact H2_) | (have H2_ := (Option.bind_some _ _).symm.trans H; with_reducible exact H2_) | with_reducible exact H | (rw [hy182]; exact H) | exact H
 have Ny182 := Aside0.mk hy182
 clear hy182
 by_cases c3 : y182.length + l1.length < 17592186044416
 ·
  rw [if_pos c3] at H
  have LMc3 := Aside0.mk c3
  clear c3
  obtain ⟨y185, hy185⟩ : ∃ y_ : List Int, y_ = (y182 ++ l1) := ⟨_, rfl⟩
  replace H : (spec_l5Rows.l0 k l0 0 y185 ([] : List Int)) = some (r1, r2) := by first | (rw [hy185]; with_reducible exact H) | (have H2_ := (Option.bind_some _ _).symm.trans H; rw [hy185]; with_reducible exact H2_) | (have H2_ := (Option.bind_some _ _).symm.trans H; with_reducible exact H2_) | with_reducible exact H | (rw [hy185]; exact H) | exact H
  have Ny185 := Aside0.mk hy185
  clear hy185
  have H' := Aside0.mk H
  clear H
  go_enter Try.func76, Try.ntmps76
  go_wp2_with (first | ((with_reducible refine gate_dst (N := 4) rfl ?_); refine box_event ?hg (N := 4) ?hd (cs := #[.slice none 0 0, .slice none 0 0]) (t := 26) ?hr ?_; (case hd => rfl); (case hg => rfl); (case hr => first | (go_simp; done) | (go_simp; rfl)); intro gb181 hg w4 hbox hb; have BK181 := Aside0.mk (hbox); have GW181 := Aside0.mk ((by rw [hg]; exact (below_size (bU HB.out)) : w.heap.size ≤ gb181)); have GE181 := Aside0.mk ((by rw [hg]; exact (below_size (bU HB.out)) : w.heap.size ≤ gb181)); replace HB := Aside0.mk (below_step (bU HB.out) hb); clear hb hbox hg) | ((with_reducible refine gate_dst (N := 9) rfl ?_); refine Kd.R_lit (Kd.int .i64) _ 3 ?hg (N := 9) ?hd (xs := ([(l0.length : Int)] : List Int)) (inner := [.int .i64 (l0.length : Int)]) (ok := fun _ => True) (okp := fun _ => True) ?hr ?hp (fun _ hk => hk) trivial (Below.refl _ _) (Nat.le_refl _) (by simp) ?_; (case hd => rfl); (case hg => rfl); (case hr => first | (go_simp; done) | (go_simp; rfl)); (case hp => exact (Reps.one (show Kd.M (Kd.int .i64) _ _ _ (l0.length : Int) [.int .i64 (l0.length : Int)] from rfl) (Reps.none _ _))); intro v183 w5 ho6 hb hg_ hnew_; clear hg_ hnew_; (first | rw [← Ny182.out] at ho6 | (simp only [Int.reduceToNat] at ho6; rw [← Ny182.out] at ho6)); have HO184 := Aside0.mk (Kd.R_lower ho6 (below_size (bS1 HB.out GE181.out))); replace BK181 := Aside0.mk (kB BK181.out hb); replace HB := Aside0.mk (below_step (bS1 HB.out GE181.out) hb); clear hb ho6) | ((with_reducible refine gate_builtin (b := .append) (xs := #[.tmp 9, .tmp 10]) rfl ?_); at_builtin; refine Kd.R_append_rows (Kd.int .i64) (w0 := w) w.heap.size rfl (.tmp 9) (.tmp 10) 22 3 (.int .i64 0) 8 rfl Try.underlying22 info3 rfl (by decide) (by omega) v183 y182 l1 _ _ _ (fun _ => True) (fun _ => False) rfl rfl ?aO ?aR (fun _ _ h => h) (fun _ h => h.elim) ?aF ?aB ?aS ?aL ?_; (case aR => exact cU (Kd.C_below HR1.out HB.out)); (case aB => exact (bS1 HB.out GE181.out)); (case aF => exact (fun _ _ => trivial)); (case aO => exact (RU HO184.out)); (case aS => exact (below_size (bS1 HB.out GE181.out))); (case aL => have := LMc3.out; omega); intro v186 w7 ho hb hg hat; rw [← Ny185.out] at ho; have n0_ := Aside0.mk (blk_grown (g := gb181) (o := .cells #[.slice none 0 0, .slice none 0 0] 26 (0, 0)) (kU BK181.out) hg (Kd.R_ne HO184.out BK181.out (by decide))); have n1_ := Aside0.mk (hb); have n2_ := Aside0.mk (ho); clear BK181; clear HB; clear HO184; have BK181 := n0_; have HB := n1_; have HO187 := n2_; clear n0_ n1_ n2_; clear ho hb hg hat; obtain ⟨Ao8, co8, eo8⟩ := Kd.R_slice HO187.out; subst eo8) | ((with_reducible refine gate_dst (N := 5) rfl ?_); refine box_event ?hg (N := 5) ?hd (cs := #[.slice none 0 0, .slice none 0 0]) (t := 26) ?hr ?_; (case hd => rfl); (case hg => rfl); (case hr => first | (go_simp; done) | (go_simp; rfl)); intro gb188 hg w9 hbox hb; replace HO187 := Aside0.mk (Kd.R_below (RU HO187.out) hb); have BK188 := Aside0.mk (hbox); have GW188 := Aside0.mk ((by rw [hg]; exact (below_size (bS1 HB.out GE181.out)) : w.heap.size ≤ gb188)); have GE188 := Aside0.mk ((by rw [hg]; exact (below_size (bS1 HB.out GE181.out)) : w.heap.size ≤ gb188)); replace HB := Aside0.mk (below_step (bS1 HB.out GE181.out) hb); have NB181_188 := Aside0.mk (kN BK181.out hg); have NB188_181 := Aside0.mk (kM BK181.out hg); replace BK181 := Aside0.mk (kB BK181.out hb); clear hb hbox hg; have hnb10 := NB188_181.out; have hnc10 := NB181_188.out; have hcz11_0 : w9.cell? ⟨gb188, 0, none⟩ = some (.slice none 0 0) := (blk_cell BK188.out 0).trans rfl; have hcz11_1 : w9.cell? ⟨gb188, 1, none⟩ = some (.slice none 0 0) := (blk_cell BK188.out 1).trans rfl; have hfz11_0 := blk_frozen BK188.out 0; have hfz11_1 := blk_frozen BK188.out 1))
  go_loopg [6] k (fun kq v6 w' => ∃ (x6_1 : Int) (x189001_1 : List Int) (u189001 : Value), v6 = .int .i64 x6_1 ∧ Aside0 (spec_l5Rows.l0 kq l0 x6_1 y185 x189001_1 = some (r1, r2)) ∧ Aside0 (kq ≤ k) ∧ Aside0 (Kd.R (Kd.int .i64) 3 w' w.heap.size (fun k_ => some k_ ≠ (u189001 : Value).ownBlock) (.slice Ao8 y185.length co8) y185) ∧ Aside0 (Kd.R (Kd.int .i64) 3 w' w.heap.size (fun k_ => some k_ ≠ ((.slice Ao8 y185.length co8) : Value).ownBlock) u189001 x189001_1) ∧ Aside0 (w'.heap[gb181]? = some (.cells #[(.slice none 0 0), (.slice none 0 0)] 26 (0, 0))) ∧ Aside0 (w'.heap[gb188]? = some (.cells #[(.slice Ao8 y185.length co8), u189001] 26 (0, 0))) ∧ Aside0 (Below w.heap.size w w'))
  case atStart => exact ⟨(0), (([] : List Int)), (.slice none 0 0), (by first | rfl | (simp; done) | (simp [*]; done)), H', ⟨Nat.le_refl _⟩, ⟨by refine RU ?_; exact Kd.R_mono (Kd.R_far (p := ⟨gb188, 1, none⟩) (Kd.R_far (p := ⟨gb188, 0, none⟩) (Kd.R_types HO187.out BK188.out (by decide)) (fun _ hk => hk.2) (.slice Ao8 y185.length co8)) (fun _ hk => hk.2) (.slice none 0 0)) (fun _ hk => (by simp [Value.ownBlock]))⟩, ⟨by first | exact Kd.R_nil _ _ _ _ _ | exact Kd.N_nil _ _ _ _ _ | exact Kd.V_nil _ _ _ _ _ | exact Kd.Q_nil _ _ _ _ _ | exact Kd.S_nil _ _ _ _ _⟩, ⟨by refine kU ?_; refine blk_far ?_ NB181_188.out _; refine kU ?_; refine blk_far ?_ NB181_188.out _; refine kU ?_; exact BK181.out⟩, ⟨by refine kU ?_; refine blk_put (cs := #[.slice Ao8 y185.length co8, .slice none 0 0]) ?_ 1 _ rfl; refine kU ?_; refine blk_put (cs := #[.slice none 0 0, .slice none 0 0]) ?_ 0 _ rfl; refine kU ?_; exact BK188.out⟩, ⟨by exact bS2 HB.out GE181.out GE188.out⟩⟩
  case round =>
   clear H'
   try clear c1
   try clear p2
   try clear c3
   try clear c7
   try clear c10
   try clear hcz11_0
   try clear hcz11_1
   try clear hfz11_0
   try clear hfz11_1
   obtain ⟨x6_1, x189001_1, u189001, rfl, HA, HK1, HO_189000, HO_189001, BK181, BK188, HB⟩ := hrel
   cases gk with
   | zero => exact absurd HA.out (by simp [spec_l5Rows.l0])
   | succ k1 =>
    have H := HA.out
    clear HA
    simp only [spec_l5Rows.l0] at H
    by_cases c12 : x6_1 < (l0.length : Int)
    ·
     rw [if_pos c12] at H
     have c12b0 : decide (x6_1 < (l0.length : Int)) = true := decide_eq_true c12
     clear c12
     by_cases c13 : 0 ≤ x6_1
     ·
      rw [if_pos c13] at H
      have c13b0 : decide (0 ≤ x6_1) = true := decide_eq_true c13
      clear c13
      by_cases c14 : x189001_1.length + ((rd_T26 l0 x6_1).f1).length < 17592186044416
      ·
       rw [if_pos c14] at H
       have LMc14 := Aside0.mk c14
       clear c14
       obtain ⟨y190, hy190⟩ : ∃ y_ : List Int, y_ = (x189001_1 ++ ((rd_T26 l0 x6_1).f1)) := ⟨_, rfl⟩
       replace H : (spec_l5Rows.l0 k1 l0 (wrap64 (x6_1 + 1)) y185 y190) = some (r1, r2) := by first | (rw [hy190]; with_reducible exact H) | (have H2_ := (Option.bind_some _ _).symm.trans H; rw [hy190]; with_reducible exact H2_) | (have H2_ := (Option.bind_some _ _).symm.trans H; with_reducible exact H2_) | with_reducible exact H | (rw [hy190]; exact H) | exact H
       have Ny190 := Aside0.mk hy190
       clear hy190
       have H' := Aside0.mk H
       clear H
       try go_wp2
       replace HO_189000 := Aside0.mk (Kd.R_drew HO_189000.out)
       replace HO_189001 := Aside0.mk (Kd.R_drew HO_189001.out)
       replace BK181 := Aside0.mk (blk_drew BK181.out)
       replace BK188 := Aside0.mk (blk_drew BK188.out)
       replace HB := Aside0.mk (below_drew1 HB.out)
       have p189 : 0 ≤ (x6_1 : Int) := of_decide_eq_true (by first | (with_reducible assumption) | assumption)
       have q189 : x6_1 < (l0.length : Int) := of_decide_eq_true (by first | (with_reducible assumption) | assumption)
       obtain ⟨ad189, A189_0, c189_0, A189_1, c189_1, e189, hx189_0, hx189_1, hl189_0, hi189_0, hl189_1, hi189_1⟩ := at_T26 HR0.out x6_1 p189 q189
       have hw189_1 := hx189_1
       have hw189_0 := hx189_0
       cases e189
       replace hx189_0 := (HB.out.cell (World.block_lt_of_cell? w _ hx189_0)).trans hx189_0
       replace hx189_1 := (HB.out.cell (World.block_lt_of_cell? w _ hx189_1)).trans hx189_1
       have HR189_0 := Aside0.mk hi189_0
       have HC189_0 := Aside0.mk hl189_0
       clear hi189_0 hl189_0
       have HR189_1 := Aside0.mk hi189_1
       have HC189_1 := Aside0.mk hl189_1
       clear hi189_1 hl189_1
       replace p189 := eq_true p189
       replace q189 := eq_true q189
       refine start_ (n := 10) (S := fun w' => w'.cell? ⟨gb188, 0, none⟩ = some (.slice Ao8 y185.length co8) ∧ w'.cell? ⟨gb188, 1, none⟩ = some (u189001) ∧ w'.cell? (ad189.add ((x6_1).toNat * 2)) = some (.slice A189_0 ((rd_T26 l0 x6_1).f0).length c189_0) ∧ w'.cell? ⟨(ad189.add ((x6_1).toNat * 2)).block, (ad189.add ((x6_1).toNat * 2)).off + 1, none⟩ = some (.slice A189_1 ((rd_T26 l0 x6_1).f1).length c189_1)) (ds := [9]) #[false, false, false, false, false, false, false, false, false, false] (by kernel_rfl) rfl rfl ⟨(blk_cell BK188.out 0).trans rfl, (blk_cell BK188.out 1).trans rfl, ((HB.out.cell (World.block_lt_of_cell? w _ hw189_0)).trans hw189_0), ((HB.out.cell (World.block_lt_of_cell? w _ hw189_1)).trans hw189_1)⟩ (fun hHeld => ?_); refine with_tabW spec_l5Rows.tab5 spec_l5Rows.bits5 (fun HT_ HW_ => ?_)
       generalize wr.drew = w15 at HO_189000 HO_189001 BK181 BK188 HB HR189_0 HR189_1 hx189_0 hx189_1 hHeld ⊢
       refine pure_ (i := 0) (N := some 19) (v := ?_) (a' := ?_) #[true, false, false, false, false, false, false, false, false, false] rfl rfl (any_of HT_.out (by kernel_rfl)) (fun _ _ _ h => h) (Or.inl ⟨by rfl, ?_⟩) ?_ ?_
       rotate_left
       ·
        intro w'
        go_simp
        with_reducible rfl
       rotate_left
       ·
        simp only [Act.put, List.setIfInBounds_toArray, List.set_cons_zero, List.set_cons_succ, i64_w, i32_w]
        rfl
       refine pure_ (i := 2) (N := some 21) (v := ?_) (a' := ?_) #[true, false, true, false, false, false, false, false, false, false] rfl rfl (any_of HT_.out (by kernel_rfl)) (fun _ _ _ h => h) (Or.inl ⟨by rfl, ?_⟩) ?_ ?_
       rotate_left
       ·
        intro w'
        go_simp
        with_reducible rfl
       rotate_left
       ·
        simp only [Act.put, List.setIfInBounds_toArray, List.set_cons_zero, List.set_cons_succ, i64_w, i32_w]
        rfl
       refine pure_ (i := 3) (N := some 22) (v := ?_) (a' := ?_) #[true, false, true, true, false, false, false, false, false, false] rfl rfl (any_of HT_.out (by kernel_rfl)) (fun _ _ _ h => h) (Or.inl ⟨by rfl, ?_⟩) ?_ ?_
       rotate_left
       ·
        intro w'
        go_simp
        with_reducible rfl
       rotate_left
       ·
        simp only [Act.put, List.setIfInBounds_toArray, List.set_cons_zero, List.set_cons_succ, i64_w, i32_w]
        rfl
       refine pure_ (i := 4) (N := some 23) (v := ?_) (a' := ?_) #[true, false, true, true, true, false, false, false, false, false] rfl rfl (any_of HT_.out (by kernel_rfl)) (fun _ _ _ h => h) (Or.inl ⟨by rfl, ?_⟩) ?_ ?_
       rotate_left
       ·
        intro w'
        go_simp
        with_reducible rfl
       rotate_left
       ·
        simp only [Act.put, List.setIfInBounds_toArray, List.set_cons_zero, List.set_cons_succ, i64_w, i32_w]
        rfl
       refine pure_ (i := 5) (N := some 24) (v := ?_) (a' := ?_) #[true, false, true, true, true, true, false, false, false, false] rfl rfl (any_of HT_.out (by kernel_rfl)) (fun _ _ _ h => h) (Or.inl ⟨by rfl, ?_⟩) ?_ ?_
       rotate_left
       ·
        intro w'
        go_simp
        with_reducible rfl
       rotate_left
       ·
        simp only [Act.put, List.setIfInBounds_toArray, List.set_cons_zero, List.set_cons_succ, i64_w, i32_w]
        rfl
       refine take_ (i := 1) (N := some 20) (v := ?_) (a' := ?_) #[true, true, true, true, true, true, false, false, false, false] rfl rfl (take_ofW HT_.out HW_.out (by kernel_rfl)) (fun _ _ _ h => h) (Or.inl ⟨by rfl, ?_⟩) hHeld ?_ ?_
       rotate_left
       ·
        rintro w' ⟨s0, s1, s2, s3⟩
        go_simp
        with_reducible rfl
       rotate_left
       ·
        simp only [Act.put, List.setIfInBounds_toArray, List.set_cons_zero, List.set_cons_succ, i64_w, i32_w]
        rfl
       refine take_ (i := 6) (N := some 25) (v := ?_) (a' := ?_) #[true, true, true, true, true, true, true, false, false, false] rfl rfl (take_ofW HT_.out HW_.out (by kernel_rfl)) (fun _ _ _ h => h) (Or.inl ⟨by rfl, ?_⟩) hHeld ?_ ?_
       rotate_left
       ·
        rintro w' ⟨s0, s1, s2, s3⟩
        go_simp
        with_reducible rfl
       rotate_left
       ·
        simp only [Act.put, List.setIfInBounds_toArray, List.set_cons_zero, List.set_cons_succ, i64_w, i32_w]
        rfl
       refine one_ (i := 7) (N := some 26) #[true, true, true, true, true, true, true, true, false, false] rfl rfl (one_of HT_.out (by kernel_rfl)) (by decide) (fun K hK => ?_)
       refine Kd.R_append_rows_step (Kd.int .i64) (w0 := w) w.heap.size (by rfl) (.tmp 20) (.tmp 25) 22 3 (.int .i64 0) 8 rfl Try.underlying22 info3 rfl (by decide) (by omega) u189001 x189001_1 ((rd_T26 l0 x6_1).f1) _ _ _ (fun k_ => some k_ ≠ (.slice Ao8 y185.length co8 : Value).ownBlock) (fun _ => False) rfl rfl ?aO ?aR (fun _ _ h => h) (fun _ h => h.elim) ?aF ?aB ?aS ?aL ?_
       (case aR => exact cU (Kd.C_below HR189_1.out HB.out))
       (case aB => exact (bS2 HB.out GE181.out GE188.out))
       (case aF => exact (fun k_ hk => Kd.fresh' (Kd.R_lt (RU HO_189000.out)) k_ hk))
       (case aO => exact (RU HO_189001.out))
       (case aS => exact (below_size (bS2 HB.out GE181.out GE188.out)))
       (case aL => have := LMc14.out; omega)
       intro v191 w16 ho hb hg hat
       rw [← Ny190.out] at ho
       have n0_ := Aside0.mk (Kd.R_after (ok := (fun _ => True)) (by refine RU ?_; exact Kd.R_mono HO_189000.out (fun _ hk => ⟨trivial, hk⟩)) hg hat)
       have n1_ := Aside0.mk (blk_grown (g := gb181) (o := .cells #[.slice none 0 0, .slice none 0 0] 26 (0, 0)) (kU BK181.out) hg (Kd.R_ne HO_189001.out BK181.out (by decide)))
       have n2_ := Aside0.mk (blk_grown (g := gb188) (o := .cells #[.slice Ao8 y185.length co8, u189001] 26 (0, 0)) (kU BK188.out) hg (Kd.R_ne HO_189001.out BK188.out (by decide)))
       have n3_ := Aside0.mk (hb)
       have n4_ := Aside0.mk (ho)
       clear HO_189000 BK181 BK188 HB HO_189001
       have HO_189000 := n0_
       have BK181 := n1_
       have BK188 := n2_
       have HB := n3_
       have HO192 := n4_
       clear n0_ n1_ n2_ n3_ n4_
       clear ho hb hg hat
       obtain ⟨Ao17, co17, eo17⟩ := Kd.R_slice HO192.out
       (first | subst eo17 | (injection eo17 with f1_ f2_ f3_; have f4_ := f1_.symm; have f5_ := f3_.symm; clear f1_ f2_ f3_; subst f4_; subst f5_))
       refine hK.out _ _ ⟨(blk_cell BK188.out 0).trans rfl, (blk_cell BK188.out 1).trans rfl, ((HB.out.cell (World.block_lt_of_cell? w _ hw189_0)).trans hw189_0), ((HB.out.cell (World.block_lt_of_cell? w _ hw189_1)).trans hw189_1)⟩ (fun hHeld => ?_)
       clear hK K
       refine norm_ (a' := ?_) ?_ ?_
       rotate_left
       ·
        show Act.put _ (some 26) _ = _
        simp only [Act.put, List.setIfInBounds_toArray, List.set_cons_zero, List.set_cons_succ, i64_w, i32_w]
        rfl
       refine pure_ (i := 8) (N := some 27) (v := ?_) (a' := ?_) #[true, true, true, true, true, true, true, true, true, false] rfl rfl (any_of HT_.out (by kernel_rfl)) (fun _ _ _ h => h) (Or.inl ⟨by rfl, ?_⟩) ?_ ?_
       rotate_left
       ·
        intro w'
        go_simp
        with_reducible rfl
       rotate_left
       ·
        simp only [Act.put, List.setIfInBounds_toArray, List.set_cons_zero, List.set_cons_succ, i64_w, i32_w]
        rfl
       refine last_ (i := 9) (N := none) #[true, true, true, true, true, true, true, true, true, true] rfl rfl (one_of HT_.out (by kernel_rfl)) (by decide) (fun K hK => ?_)
       have hs18 : w16.cell? ⟨gb188, 1, none⟩ = some (u189001) := (blk_cell BK188.out 1).trans rfl
       have hfs18 := blk_frozen BK188.out 1
       have hns18_0 := NB181_188.out
       have hms18_0 := NB188_181.out
       refine skip_ (w1 := ?_) (by rfl) rfl ?_ ?_
       rotate_left
       ·
        go_simp
        rfl
       refine hK.out _ _ ?_
       clear hK K
       refine done_ (done_of HT_.out (by kernel_rfl)) ?_
       try go_wp2
       go_roundg k1
       case measure => have := HK1.out; omega
       case rel => exact ⟨(wrap64 (x6_1 + 1)), (y190), (.slice Ao17 y190.length co17), (by first | rfl | (simp; done) | (simp [*]; done)), H', ⟨by have := HK1.out; omega⟩, ⟨by refine RU ?_; exact Kd.R_mono (Kd.R_far (p := ⟨gb188, 1, none⟩) (Kd.R_types HO_189000.out BK188.out (by decide)) (fun _ hk => hk.2) (.slice Ao17 y190.length co17)) (fun _ hk => hk.1.2)⟩, ⟨by refine RU ?_; exact Kd.R_mono (Kd.R_far (p := ⟨gb188, 1, none⟩) (Kd.R_types HO192.out BK188.out (by decide)) (fun _ hk => hk.2) (.slice Ao17 y190.length co17)) (fun _ hk => hk.1)⟩, ⟨by refine kU ?_; refine blk_far ?_ NB181_188.out _; refine kU ?_; exact BK181.out⟩, ⟨by refine kU ?_; refine blk_put (cs := #[.slice Ao8 y185.length co8, u189001]) ?_ 1 _ rfl; refine kU ?_; exact BK188.out⟩, ⟨by exact bS2 HB.out GE181.out GE188.out⟩⟩
      ·
       rw [if_neg c14] at H
       exact absurd H (by simp)
     ·
      rw [if_neg c13] at H
      exact absurd H (by simp)
    ·
     rw [if_neg c12] at H
     have c12b0 : decide (x6_1 < (l0.length : Int)) = false := decide_eq_false c12
     clear c12
     simp only [Option.some.injEq, Prod.mk.injEq] at H
     obtain ⟨rfl, rfl⟩ := H
     have hnb19 := NB188_181.out
     have hnc19 := NB181_188.out
     have hcz20_0 : wr.cell? ⟨gb188, 0, none⟩ = some (.slice Ao8 y185.length co8) := (blk_cell BK188.out 0).trans rfl
     have hcz20_1 : wr.cell? ⟨gb188, 1, none⟩ = some (u189001) := (blk_cell BK188.out 1).trans rfl
     have hfz20_0 := blk_frozen BK188.out 0
     have hfz20_1 := blk_frozen BK188.out 1
     have hcz21_0 : wr.cell? ⟨gb181, 0, none⟩ = some (.slice none 0 0) := (blk_cell BK181.out 0).trans rfl
     have hcz21_1 : wr.cell? ⟨gb181, 1, none⟩ = some (.slice none 0 0) := (blk_cell BK181.out 1).trans rfl
     have hfz21_0 := blk_frozen BK181.out 0
     have hfz21_1 := blk_frozen BK181.out 1
     obtain ⟨Ao22, co22, eo22⟩ := Kd.R_slice HO_189001.out
     subst eo22
     go_wp2
     refine bodyPost_ret (results_cell_row rfl _ _ gb181 26 #[.slice Ao8 y185.length co8, .slice Ao22 x189001_1.length co22] (0, 0) _ rfl (by refine kU ?_; refine blk_put (cs := #[.slice Ao8 y185.length co8, .slice none 0 0]) ?_ 1 _ rfl; refine kU ?_; refine blk_put (cs := #[.slice none 0 0, .slice none 0 0]) ?_ 0 _ rfl; refine kU ?_; exact BK181.out) Try.underlying26 rfl (by kernel_rfl)) rfl ?_
     exact ⟨_, _, by first | rfl | (simp [errW_none, errW_some] <;> rfl) | (simp [*, errW_none, errW_some] <;> rfl), by refine RU ?_; exact Kd.R_mono (Kd.R_far (p := ⟨gb181, 1, none⟩) (Kd.R_far (p := ⟨gb181, 0, none⟩) (Kd.R_types HO_189000.out BK181.out (by decide)) (fun _ hk => hk.2) (.slice Ao8 y185.length co8)) (fun _ hk => hk.2) (.slice Ao22 x189001_1.length co22)) (fun _ hk => hk.1), by refine RU ?_; exact Kd.R_mono (Kd.R_far (p := ⟨gb181, 1, none⟩) (Kd.R_far (p := ⟨gb181, 0, none⟩) (Kd.R_types HO_189001.out BK181.out (by decide)) (fun _ hk => hk.2) (.slice Ao8 y185.length co8)) (fun _ hk => hk.2) (.slice Ao22 x189001_1.length co22)) (fun _ hk => hk.1), by exact bS2 HB.out GE181.out GE188.out⟩
 ·
  rw [if_neg c3] at H
  exact absurd H (by simp)

/-! ### spec_Turn: function 29 -/
def spec_Turn.l0 : Nat → List (S26) → List (S26) → Int → List Int → List Int → Option (List Int × List Int × Int)
 | 0, _, _, _, _, _ => none
 | k + 1, x4, x5, x6, x194000, x194001 => if x6 ≥ 0 then (if 0 ≤ x6 then (if x6 < (x4.length : Int) then (if x5.length < 2932031007402 then (spec_Turn.l0 k x4 (x5 ++ [(⟨(rd_T26 x4 x6).f0, (rd_T26 x4 x6).f1⟩ : S26)]) (wrap64 (x6 - 1)) x194000 x194001) else (none)) else (none)) else (none)) else (if 1 ≤ (x194000.length : Int) then ((spec_l5Rows.f k x5 (x194000.drop 1)).bind fun bt213 => (some (bt213.1, bt213.2, 0))) else (none))
def spec_Turn.f (k : Nat) (l0_0 : List Int) (l0_1 : List Int) : Option (List Int × List Int × Int) := (spec_ArrayOk.f k l0_0 l0_1).bind fun t195 => (if t195 = true then (if (l0_0.length : Int) = 0 then ((spec_l3Copy.f l0_0 l0_1).bind fun bt196 => (some (bt196.1, bt196.2, 0))) else ((spec_l3Rows.f k l0_0 l0_1).bind fun t202 => (spec_Turn.l0 k t202 (([] : List (S26))) (wrap64 ((t202.length : Int) - 1)) l0_0 l0_1))) else (some (([] : List Int), ([] : List Int), 1)))
set_option maxHeartbeats 8000000 in
set_option maxRecDepth 100000 in
theorem spec_Turn.calls (k : Nat) (A0_0 : Option Addr) (c0_0 : Nat) (l0_0 : List Int) (A0_1 : Option Addr) (c0_1 : Nat) (l0_1 : List Int) (r1 : List Int) (r2 : List Int) (r3 : Int) (w : World) (hr0_0 : Kd.C (Kd.int .i64) w A0_0 l0_0.length l0_0) (hc0_0 : l0_0.length ≤ c0_0) (hr0_1 : Kd.C (Kd.int .i64) w A0_1 l0_1.length l0_1) (hc0_1 : l0_1.length ≤ c0_1) (h : spec_Turn.f k l0_0 l0_1 = some (r1, r2, r3)) :
  Calls Try.prog 29 #[.agg #[.slice A0_0 l0_0.length c0_0, .slice A0_1 l0_1.length c0_1]] w fun e w' => ∃ v0_ v1_ : Value, e = .returned (.tuple #[.agg #[v0_, v1_], .int .i64 r3]) ∧ Kd.R (Kd.int .i64) 3 w' w.heap.size (fun k_ => some k_ ≠ (v1_ : Value).ownBlock) v0_ r1 ∧ Kd.R (Kd.int .i64) 3 w' w.heap.size (fun k_ => some k_ ≠ (v0_ : Value).ownBlock) v1_ r2 ∧ Below w.heap.size w w' := by
 have hu26 := Try.underlying26
 have HR0_0 := Aside0.mk hr0_0
 have HC0_0 := Aside0.mk hc0_0
 clear hr0_0 hc0_0
 have HR0_1 := Aside0.mk hr0_1
 have HC0_1 := Aside0.mk hc0_1
 clear hr0_1 hc0_1
 have HB := Aside0.mk (Below.refl w.heap.size w)
 have H : ((spec_ArrayOk.f k l0_0 l0_1).bind fun t195 => (if t195 = true then (if (l0_0.length : Int) = 0 then ((spec_l3Copy.f l0_0 l0_1).bind fun bt196 => (some (bt196.1, bt196.2, 0))) else ((spec_l3Rows.f k l0_0 l0_1).bind fun t202 => (spec_Turn.l0 k t202 (([] : List (S26))) (wrap64 ((t202.length : Int) - 1)) l0_0 l0_1))) else (some (([] : List Int), ([] : List Int), 1)))) = some (r1, r2, r3) := h
 clear h
 replace H := Option.bind_eq_some_iff.mp H
 obtain ⟨t195, A20, H⟩ := H
 replace H : (if t195 = true then (if (l0_0.length : Int) = 0 then ((spec_l3Copy.f l0_0 l0_1).bind fun bt196 => (some (bt196.1, bt196.2, 0))) else ((spec_l3Rows.f k l0_0 l0_1).bind fun t202 => (spec_Turn.l0 k t202 (([] : List (S26))) (wrap64 ((t202.length : Int) - 1)) l0_0 l0_1))) else (some (([] : List Int), ([] : List Int), 1))) = some (r1, r2, r3) := H
 have A2 := Aside0.mk A20
 clear A20
 by_cases c3 : t195 = true
 ·
  subst c3
  have H1 : (if (l0_0.length : Int) = 0 then ((spec_l3Copy.f l0_0 l0_1).bind fun bt196 => (some (bt196.1, bt196.2, 0))) else ((spec_l3Rows.f k l0_0 l0_1).bind fun t202 => (spec_Turn.l0 k t202 (([] : List (S26))) (wrap64 ((t202.length : Int) - 1)) l0_0 l0_1))) = some (r1, r2, r3) := by rw [if_pos rfl] at H; exact H
  clear H
  have H := H1
  clear H1
  by_cases c4 : (l0_0.length : Int) = 0
  ·
   rw [if_pos c4] at H
   have c4b0 : ((l0_0.length : Int) == 0) = true := beq_iff_eq.mpr c4
   have c4b1 : ((l0_0.length : Int) != 0) = false := bne_eq_false_iff_eq.mpr c4
   clear c4
   replace H := Option.bind_eq_some_iff.mp H
   obtain ⟨⟨t196, t199⟩, A50, H⟩ := H
   replace H : (some (t196, t199, 0)) = some (r1, r2, r3) := H
   have A5 := Aside0.mk A50
   clear A50
   simp only [Option.some.injEq, Prod.mk.injEq] at H
   obtain ⟨rfl, rfl, rfl⟩ := H
   go_enter Try.func29, Try.ntmps29
   go_wp2_with (first | ((with_reducible refine gate_dst (N := 1) rfl ?_); refine box_event ?hg (N := 1) ?hd (cs := #[.slice A0_0 l0_0.length c0_0, .slice A0_1 l0_1.length c0_1]) (t := 26) ?hr ?_; (case hd => rfl); (case hg => rfl); (case hr => first | (go_simp; done) | (go_simp; rfl)); intro gb193 hg w6 hbox hb; have BK193 := Aside0.mk (hbox); have GW193 := Aside0.mk ((by rw [hg]; exact (below_size (bU HB.out)) : w.heap.size ≤ gb193)); have GE193 := Aside0.mk ((by rw [hg]; exact (below_size (bU HB.out)) : w.heap.size ≤ gb193)); replace HB := Aside0.mk (below_step (bU HB.out) hb); clear hb hbox hg) | ((with_reducible refine gate_dst (N := 2) rfl ?_); refine box_event ?hg (N := 2) ?hd (cs := #[.slice none 0 0, .slice none 0 0]) (t := 26) ?hr ?_; (case hd => rfl); (case hg => rfl); (case hr => first | (go_simp; done) | (go_simp; rfl)); intro gb194 hg w7 hbox hb; have BK194 := Aside0.mk (hbox); have GW194 := Aside0.mk ((by rw [hg]; exact (below_size (bS1 HB.out GE193.out)) : w.heap.size ≤ gb194)); have GE194 := Aside0.mk ((by rw [hg]; exact (below_size (bS1 HB.out GE193.out)) : w.heap.size ≤ gb194)); replace HB := Aside0.mk (below_step (bS1 HB.out GE193.out) hb); have NB193_194 := Aside0.mk (kN BK193.out hg); have NB194_193 := Aside0.mk (kM BK193.out hg); replace BK193 := Aside0.mk (kB BK193.out hb); clear hb hbox hg; have hnb8 := NB193_194.out; have hnc8 := NB194_193.out; have hcz9_0 : w7.cell? ⟨gb193, 0, none⟩ = some (.slice A0_0 l0_0.length c0_0) := (blk_cell BK193.out 0).trans rfl; have hcz9_1 : w7.cell? ⟨gb193, 1, none⟩ = some (.slice A0_1 l0_1.length c0_1) := (blk_cell BK193.out 1).trans rfl; have hfz9_0 := blk_frozen BK193.out 0; have hfz9_1 := blk_frozen BK193.out 1) | ((with_reducible refine gate_callee (f := 34) rfl ?_); refine goesL_ (some 8) rfl rfl Try.func34 (by kernel_rfl) rfl #[.agg #[.slice A0_0 l0_0.length c0_0, .slice A0_1 l0_1.length c0_1]] rfl lU ?_; (with_reducible refine (spec_ArrayOk.calls k _ _ l0_0 _ _ l0_1 true _ ?side1 ?side2 ?side3 ?side4 A2.out).mono ?_); (case side1 => exact cU (Kd.C_below HR0_0.out HB.out)); (case side2 => exact HC0_0.out); (case side3 => exact cU (Kd.C_below HR0_1.out HB.out)); (case side4 => exact HC0_1.out); rintro e w10 ⟨rfl, hb⟩; refine ⟨_, rfl, ?_⟩; replace BK193 := Aside0.mk (kB BK193.out hb); replace BK194 := Aside0.mk (kB BK194.out hb); replace HB := Aside0.mk (below_step (bS2 HB.out GE193.out GE194.out) hb); (try clear hb); (try clear hb2); (try clear hk); (try clear hi); have hcz11_0 : w10.cell? ⟨gb193, 0, none⟩ = some (.slice A0_0 l0_0.length c0_0) := (blk_cell BK193.out 0).trans rfl; have hcz11_1 : w10.cell? ⟨gb193, 1, none⟩ = some (.slice A0_1 l0_1.length c0_1) := (blk_cell BK193.out 1).trans rfl; have hfz11_0 := blk_frozen BK193.out 0; have hfz11_1 := blk_frozen BK193.out 1) | ((with_reducible refine gate_callee (f := 57) rfl ?_); refine goesL_ (some 16) rfl rfl Try.func57 (by kernel_rfl) rfl #[.agg #[.slice A0_0 l0_0.length c0_0, .slice A0_1 l0_1.length c0_1]] rfl lU ?_; (with_reducible refine (spec_l3Copy.calls _ _ l0_0 _ _ l0_1 t196 t199 _ ?side1 ?side2 ?side3 ?side4 A5.out).mono ?_); (case side1 => exact cU (Kd.C_below HR0_0.out HB.out)); (case side2 => exact HC0_0.out); (case side3 => exact cU (Kd.C_below HR0_1.out HB.out)); (case side4 => exact HC0_1.out); rintro e w12 ⟨v197, v200, rfl, ho0, ho1, hb⟩; refine ⟨_, rfl, ?_⟩; have HO198 := Aside0.mk (Kd.R_lower ho0 (below_size (bS2 HB.out GE193.out GE194.out))); have HO201 := Aside0.mk (Kd.R_lower ho1 (below_size (bS2 HB.out GE193.out GE194.out))); replace BK193 := Aside0.mk (kB BK193.out hb); replace BK194 := Aside0.mk (kB BK194.out hb); replace HB := Aside0.mk (below_step (bS2 HB.out GE193.out GE194.out) hb); (try clear hb); (try clear hb2); (try clear hk); (try clear hi); (try clear ho0); (try clear ho1); obtain ⟨Ao13, co13, eo13⟩ := Kd.R_slice HO198.out; subst eo13; have hcz14_0 : w12.cell? ⟨gb194, 0, none⟩ = some (.slice none 0 0) := (blk_cell BK194.out 0).trans rfl; have hcz14_1 : w12.cell? ⟨gb194, 1, none⟩ = some (.slice none 0 0) := (blk_cell BK194.out 1).trans rfl; have hfz14_0 := blk_frozen BK194.out 0; have hfz14_1 := blk_frozen BK194.out 1; obtain ⟨Ao15, co15, eo15⟩ := Kd.R_slice HO201.out; subst eo15))
   refine bodyPost_ret (results_ct rfl _ _ gb194 26 #[.slice Ao13 t196.length co13, .slice Ao15 t199.length co15] (0, 0) _ rfl (by refine kU ?_; refine blk_put (cs := #[.slice Ao13 t196.length co13, .slice none 0 0]) ?_ 1 _ rfl; refine kU ?_; refine blk_put (cs := #[.slice none 0 0, .slice none 0 0]) ?_ 0 _ rfl; refine kU ?_; exact BK194.out) Try.underlying26 rfl (by kernel_rfl)) rfl ?_
   exact ⟨_, _, by first | rfl | (simp [errW_none, errW_some] <;> rfl) | (simp [*, errW_none, errW_some] <;> rfl), by refine RU ?_; exact Kd.R_mono (Kd.R_far (p := ⟨gb194, 1, none⟩) (Kd.R_far (p := ⟨gb194, 0, none⟩) (Kd.R_types HO198.out BK194.out (by decide)) (fun _ hk => hk.2) (.slice Ao13 t196.length co13)) (fun _ hk => hk.2) (.slice Ao15 t199.length co15)) (fun _ hk => hk.1), by refine RU ?_; exact Kd.R_mono (Kd.R_far (p := ⟨gb194, 1, none⟩) (Kd.R_far (p := ⟨gb194, 0, none⟩) (Kd.R_types HO201.out BK194.out (by decide)) (fun _ hk => hk.2) (.slice Ao13 t196.length co13)) (fun _ hk => hk.2) (.slice Ao15 t199.length co15)) (fun _ hk => hk.1), by exact bS2 HB.out GE193.out GE194.out⟩
  ·
   rw [if_neg c4] at H
   have c4b0 : ((l0_0.length : Int) == 0) = false := beq_eq_false_iff_ne.mpr c4
   have c4b1 : ((l0_0.length : Int) != 0) = true := bne_iff_ne.mpr c4
   have c4b2 : ¬ (l0_0 = []) := fun h_ => c4 (by rw [h_]; rfl)
   replace H := Option.bind_eq_some_iff.mp H
   obtain ⟨t202, A160, H⟩ := H
   replace H : (spec_Turn.l0 k t202 (([] : List (S26))) (wrap64 ((t202.length : Int) - 1)) l0_0 l0_1) = some (r1, r2, r3) := H
   have A16 := Aside0.mk A160
   clear A160
   obtain ⟨y205, hy205⟩ : ∃ y_ : List (S26), y_ = (([] : List (S26))) := ⟨_, rfl⟩
   replace H : (spec_Turn.l0 k t202 y205 (wrap64 ((t202.length : Int) - 1)) l0_0 l0_1) = some (r1, r2, r3) := by first | (rw [hy205]; with_reducible exact H) | (have H2_ := (Option.bind_some _ _).symm.trans H; rw [hy205]; with_reducible exact H2_) | (have H2_ := (Option.bind_some _ _).symm.trans H; with_reducible exact H2_) | with_reducible exact H | (rw [hy205]; exact H) | exact H
   have Ny205 := Aside0.mk hy205
   clear hy205
   have H' := Aside0.mk H
   clear H
   go_enter Try.func29, Try.ntmps29
   go_wp2_with (first | ((with_reducible refine gate_dst (N := 1) rfl ?_); refine box_event ?hg (N := 1) ?hd (cs := #[.slice A0_0 l0_0.length c0_0, .slice A0_1 l0_1.length c0_1]) (t := 26) ?hr ?_; (case hd => rfl); (case hg => rfl); (case hr => first | (go_simp; done) | (go_simp; rfl)); intro gb193 hg w17 hbox hb; have BK193 := Aside0.mk (hbox); have GW193 := Aside0.mk ((by rw [hg]; exact (below_size (bU HB.out)) : w.heap.size ≤ gb193)); have GE193 := Aside0.mk ((by rw [hg]; exact (below_size (bU HB.out)) : w.heap.size ≤ gb193)); replace HB := Aside0.mk (below_step (bU HB.out) hb); clear hb hbox hg) | ((with_reducible refine gate_dst (N := 2) rfl ?_); refine box_event ?hg (N := 2) ?hd (cs := #[.slice none 0 0, .slice none 0 0]) (t := 26) ?hr ?_; (case hd => rfl); (case hg => rfl); (case hr => first | (go_simp; done) | (go_simp; rfl)); intro gb194 hg w18 hbox hb; have BK194 := Aside0.mk (hbox); have GW194 := Aside0.mk ((by rw [hg]; exact (below_size (bS1 HB.out GE193.out)) : w.heap.size ≤ gb194)); have GE194 := Aside0.mk ((by rw [hg]; exact (below_size (bS1 HB.out GE193.out)) : w.heap.size ≤ gb194)); replace HB := Aside0.mk (below_step (bS1 HB.out GE193.out) hb); have NB193_194 := Aside0.mk (kN BK193.out hg); have NB194_193 := Aside0.mk (kM BK193.out hg); replace BK193 := Aside0.mk (kB BK193.out hb); clear hb hbox hg; have hnb19 := NB193_194.out; have hnc19 := NB194_193.out; have hcz20_0 : w18.cell? ⟨gb193, 0, none⟩ = some (.slice A0_0 l0_0.length c0_0) := (blk_cell BK193.out 0).trans rfl; have hcz20_1 : w18.cell? ⟨gb193, 1, none⟩ = some (.slice A0_1 l0_1.length c0_1) := (blk_cell BK193.out 1).trans rfl; have hfz20_0 := blk_frozen BK193.out 0; have hfz20_1 := blk_frozen BK193.out 1) | ((with_reducible refine gate_callee (f := 34) rfl ?_); refine goesL_ (some 8) rfl rfl Try.func34 (by kernel_rfl) rfl #[.agg #[.slice A0_0 l0_0.length c0_0, .slice A0_1 l0_1.length c0_1]] rfl lU ?_; (with_reducible refine (spec_ArrayOk.calls k _ _ l0_0 _ _ l0_1 true _ ?side1 ?side2 ?side3 ?side4 A2.out).mono ?_); (case side1 => exact cU (Kd.C_below HR0_0.out HB.out)); (case side2 => exact HC0_0.out); (case side3 => exact cU (Kd.C_below HR0_1.out HB.out)); (case side4 => exact HC0_1.out); rintro e w21 ⟨rfl, hb⟩; refine ⟨_, rfl, ?_⟩; replace BK193 := Aside0.mk (kB BK193.out hb); replace BK194 := Aside0.mk (kB BK194.out hb); replace HB := Aside0.mk (below_step (bS2 HB.out GE193.out GE194.out) hb); (try clear hb); (try clear hb2); (try clear hk); (try clear hi); have hcz22_0 : w21.cell? ⟨gb193, 0, none⟩ = some (.slice A0_0 l0_0.length c0_0) := (blk_cell BK193.out 0).trans rfl; have hcz22_1 : w21.cell? ⟨gb193, 1, none⟩ = some (.slice A0_1 l0_1.length c0_1) := (blk_cell BK193.out 1).trans rfl; have hfz22_0 := blk_frozen BK193.out 0; have hfz22_1 := blk_frozen BK193.out 1) | ((with_reducible refine gate_callee (f := 75) rfl ?_); refine goesL_ (some 18) rfl rfl Try.func75 (by kernel_rfl) rfl #[.agg #[.slice A0_0 l0_0.length c0_0, .slice A0_1 l0_1.length c0_1]] rfl lU ?_; (with_reducible refine (spec_l3Rows.calls k _ _ l0_0 _ _ l0_1 t202 _ ?side1 ?side2 ?side3 ?side4 A16.out).mono ?_); (case side1 => exact cU (Kd.C_below HR0_0.out HB.out)); (case side2 => exact HC0_0.out); (case side3 => exact cU (Kd.C_below HR0_1.out HB.out)); (case side4 => exact HC0_1.out); rintro e w23 ⟨v203, rfl, ho0, hb⟩; refine ⟨_, rfl, ?_⟩; have HO204 := Aside0.mk (Kd.N_lower (Kd.N_mono (ok' := fun k_ => k_ ≠ gb193 ∧ k_ ≠ gb194) (Kd.S_N (Kd.S_bound ho0)) (fun k_ hk_ => ⟨(Kd.freshB (g := gb193) (o := .cells #[.slice A0_0 l0_0.length c0_0, .slice A0_1 l0_1.length c0_1] 26 (0, 0)) (kU BK193.out) k_ hk_.2.1), (Kd.freshB (g := gb194) (o := .cells #[.slice none 0 0, .slice none 0 0] 26 (0, 0)) (kU BK194.out) k_ hk_.2.1)⟩)) (below_size (bS2 HB.out GE193.out GE194.out))); replace BK193 := Aside0.mk (kB BK193.out hb); replace BK194 := Aside0.mk (kB BK194.out hb); replace HB := Aside0.mk (below_step (bS2 HB.out GE193.out GE194.out) hb); (try clear hb); (try clear hb2); (try clear hk); (try clear hi); (try clear ho0)) | ((with_reducible refine gate_dst (N := 19) rfl ?_); refine Kd.N_lit k26 _ 26 ?hg (N' := 19) ?hd (xs := ([] : List (S26))) (inner := []) (ok := (fun k_ => some k_ ≠ (v203 : Value).ownBlock ∧ k_ ≠ gb193 ∧ k_ ≠ gb194)) (okp := (fun k_ => some k_ ≠ (v203 : Value).ownBlock ∧ k_ ≠ gb193 ∧ k_ ≠ gb194)) ?hr ?hp (fun _ hk => hk) ((show ∀ k_, w23.heap.size ≤ k_ → (fun k_ => some k_ ≠ (v203 : Value).ownBlock ∧ k_ ≠ gb193 ∧ k_ ≠ gb194) k_ from fun k_ hk => ⟨Kd.fresh' (Kd.N_lt (NU HO204.out)) k_ hk, Kd.freshB (g := gb193) (o := .cells #[.slice A0_0 l0_0.length c0_0, .slice A0_1 l0_1.length c0_1] 26 (0, 0)) (kU BK193.out) k_ hk, Kd.freshB (g := gb194) (o := .cells #[.slice none 0 0, .slice none 0 0] 26 (0, 0)) (kU BK194.out) k_ hk⟩) _ (Nat.le_refl _)) (Below.refl _ _) (Nat.le_refl _) (by simp) ?_; (case hd => rfl); (case hg => rfl); (case hr => first | (go_simp; done) | (go_simp; rfl)); (case hp => exact (Reps.none _ _)); intro v206 w24 ho25 hb hg_ hnew_; clear hg_ hnew_; (first | rw [← Ny205.out] at ho25 | (simp only [Int.reduceToNat] at ho25; rw [← Ny205.out] at ho25)); replace HO204 := Aside0.mk (Kd.N_elder' (NU HO204.out) (Kd.N_base ho25) hb); have HO207 := Aside0.mk (Kd.N_lower ho25 (below_size (bS2 HB.out GE193.out GE194.out))); replace BK193 := Aside0.mk (kB BK193.out hb); replace BK194 := Aside0.mk (kB BK194.out hb); replace HB := Aside0.mk (below_step (bS2 HB.out GE193.out GE194.out) hb); clear hb ho25; obtain ⟨Ao26, co26, eo26⟩ := Kd.N_slice HO204.out; subst eo26))
   go_loopg [5, 6] k (fun kq v5 v6 w' => ∃ (x5_1 : List (S26)) (x6_1 : Int), v6 = .int .i64 x6_1 ∧ Aside0 (spec_Turn.l0 kq t202 x5_1 x6_1 l0_0 l0_1 = some (r1, r2, r3)) ∧ Aside0 (kq ≤ k) ∧ Aside0 (Kd.N k26 26 w' w.heap.size (fun k_ => some k_ ≠ (v5 : Value).ownBlock ∧ k_ ≠ gb193 ∧ k_ ≠ gb194) (.slice Ao26 t202.length co26) t202) ∧ Aside0 (Kd.N k26 26 w' w.heap.size (fun k_ => some k_ ≠ ((.slice Ao26 t202.length co26) : Value).ownBlock ∧ k_ ≠ gb193 ∧ k_ ≠ gb194) v5 x5_1) ∧ Aside0 (w'.heap[gb193]? = some (.cells #[(.slice A0_0 l0_0.length c0_0), (.slice A0_1 l0_1.length c0_1)] 26 (0, 0))) ∧ Aside0 (w'.heap[gb194]? = some (.cells #[(.slice none 0 0), (.slice none 0 0)] 26 (0, 0))) ∧ Aside0 (Below w.heap.size w w'))
   case atStart => exact ⟨(y205), (wrap64 ((t202.length : Int) - 1)), (by first | rfl | (simp; done) | (simp [*]; done)), H', ⟨Nat.le_refl _⟩, ⟨by refine NU ?_; exact Kd.N_mono HO204.out (fun _ hk => ⟨hk.2, ⟨hk.1.1, hk.1.2⟩⟩)⟩, ⟨by refine NU ?_; exact HO207.out⟩, ⟨by refine kU ?_; exact BK193.out⟩, ⟨by refine kU ?_; exact BK194.out⟩, ⟨by exact bS2 HB.out GE193.out GE194.out⟩⟩
   case round =>
    clear H'
    try clear c1
    try clear c2
    try clear p2
    try clear c3
    try clear c4
    try clear c4b0
    try clear c4b1
    try clear c4b2
    try clear c5
    try clear p6
    try clear c7
    try clear c8
    try clear c19
    try clear hcz11_0
    try clear hcz11_1
    try clear hcz14_0
    try clear hcz14_1
    try clear hcz20_0
    try clear hcz20_1
    try clear hcz22_0
    try clear hcz22_1
    try clear hcz9_0
    try clear hcz9_1
    try clear hfz11_0
    try clear hfz11_1
    try clear hfz14_0
    try clear hfz14_1
    try clear hfz20_0
    try clear hfz20_1
    try clear hfz22_0
    try clear hfz22_1
    try clear hfz9_0
    try clear hfz9_1
    obtain ⟨x5_1, x6_1, rfl, HA, HK1, HO_4, HO_5, BK193, BK194, HB⟩ := hrel
    cases gk with
    | zero => exact absurd HA.out (by simp [spec_Turn.l0])
    | succ k1 =>
     have H := HA.out
     clear HA
     simp only [spec_Turn.l0] at H
     by_cases c27 : x6_1 ≥ 0
     ·
      rw [if_pos c27] at H
      have c27b0 : decide (0 ≤ x6_1) = true := decide_eq_true c27
      clear c27
      by_cases c28 : 0 ≤ x6_1
      ·
       rw [if_pos c28] at H
       have c28b0 : decide (0 ≤ x6_1) = true := decide_eq_true c28
       clear c28
       by_cases c29 : x6_1 < (t202.length : Int)
       ·
        rw [if_pos c29] at H
        have c29b0 : decide (x6_1 < (t202.length : Int)) = true := decide_eq_true c29
        clear c29
        by_cases c30 : x5_1.length < 2932031007402
        ·
         rw [if_pos c30] at H
         have LMc30 := Aside0.mk c30
         clear c30
         obtain ⟨y209, hy209⟩ : ∃ y_ : List (S26), y_ = (x5_1 ++ [(⟨(rd_T26 t202 x6_1).f0, (rd_T26 t202 x6_1).f1⟩ : S26)]) := ⟨_, rfl⟩
         replace H : (spec_Turn.l0 k1 t202 y209 (wrap64 (x6_1 - 1)) l0_0 l0_1) = some (r1, r2, r3) := by first | (rw [hy209]; with_reducible exact H) | (have H2_ := (Option.bind_some _ _).symm.trans H; rw [hy209]; with_reducible exact H2_) | (have H2_ := (Option.bind_some _ _).symm.trans H; with_reducible exact H2_) | with_reducible exact H | (rw [hy209]; exact H) | exact H
         have Ny209 := Aside0.mk hy209
         clear hy209
         have H' := Aside0.mk H
         clear H
         have p208 : 0 ≤ (x6_1 : Int) := of_decide_eq_true (by first | (with_reducible assumption) | assumption)
         have q208 : x6_1 < (t202.length : Int) := of_decide_eq_true (by first | (with_reducible assumption) | assumption)
         obtain ⟨ad208, A208_0, c208_0, A208_1, c208_1, e208, hx208_0, hx208_1, hl208_0, hi208_0, hl208_1, hi208_1⟩ := at_T26 (Kd.N_reads' HO_4.out).2.2 x6_1 p208 q208
         cases e208
         obtain ⟨ce208, hce208, hMe208, hcc208⟩ := Kd.N_get HO_4.out z26 x6_1 p208 (by first | exact q208 | exact of_decide_eq_true (by first | (with_reducible assumption) | assumption) | (have e_ := (Kd.N_reads' HO_4.out).1; omega))
         obtain ⟨ua208_0, uc208_0, ua208_1, uc208_1, rfl, ul208_0, ge208_0, ul208_1, ge208_1⟩ := k26_openF hMe208
         have hv208_0 := hcc208 0 _ rfl
         rw [Nat.add_zero] at hv208_0
         replace hv208_0 := Option.some.inj (hv208_0.symm.trans hx208_0)
         injection hv208_0 with hva_ hvn_ hvc_
         rw [hva_] at ge208_0
         rw [hvc_] at ul208_0
         have HL208_0 := Aside0.mk (show Kd.V (Kd.int .i64) 3 _ w.heap.size _ _ ((rd_T26 t202 x6_1).f0) from Kd.V_mk ul208_0 ge208_0)
         clear hva_ hvn_ hvc_ ge208_0 ul208_0
         have hv208_1 := hcc208 1 _ rfl
         rw [add_field _ _ 1 (by omega)] at hv208_1
         replace hv208_1 := Option.some.inj (hv208_1.symm.trans hx208_1)
         injection hv208_1 with hva_ hvn_ hvc_
         rw [hva_] at ge208_1
         rw [hvc_] at ul208_1
         have HL208_1 := Aside0.mk (show Kd.V (Kd.int .i64) 3 _ w.heap.size _ _ ((rd_T26 t202 x6_1).f1) from Kd.V_mk ul208_1 ge208_1)
         clear hva_ hvn_ hvc_ ge208_1 ul208_1
         clear hcc208 hce208
         have HR208_0 := Aside0.mk hi208_0
         have HC208_0 := Aside0.mk hl208_0
         clear hi208_0 hl208_0
         have HR208_1 := Aside0.mk hi208_1
         have HC208_1 := Aside0.mk hl208_1
         clear hi208_1 hl208_1
         replace p208 := eq_true p208
         replace q208 := eq_true q208
         go_wp2_with (first | ((with_reducible refine gate_builtin (b := .append) (xs := #[.tmp 27, .tmp 32]) rfl ?_); at_builtin; refine Kd.N_append k26 (w0 := w) w.heap.size rfl (.tmp 27) (.tmp 32) 38 26 (.agg #[(.slice none 0 0), (.slice none 0 0)]) 48 rfl Try.underlying38 info26 rfl (by decide) (by omega) u5 x5_1 (⟨(rd_T26 t202 x6_1).f0, (rd_T26 t202 x6_1).f1⟩ : S26) [.slice A208_0 ((rd_T26 t202 x6_1).f0).length c208_0, .slice A208_1 ((rd_T26 t202 x6_1).f1).length c208_1] (fun k_ => some k_ ≠ (.slice (some ad208) t202.length co26 : Value).ownBlock ∧ k_ ≠ gb193 ∧ k_ ≠ gb194) (fun k_ => ((fun k_ => some k_ ≠ (.slice (some ad208) t202.length co26 : Value).ownBlock ∧ k_ ≠ gb193 ∧ k_ ≠ gb194)) k_ ∧ some k_ ≠ (u5 : Value).ownBlock) rfl rfl ?aP (fun _ hk => hk) ?aF ?aO ?aB ?aS ?aL ?_; (case aP => exact (k26_mkF _ _ (⟨(rd_T26 t202 x6_1).f0, (rd_T26 t202 x6_1).f1⟩ : S26) (Kd.V_reads' (Kd.V_mono (ok' := (fun k_ => ((fun k_ => some k_ ≠ (.slice (some ad208) t202.length co26 : Value).ownBlock ∧ k_ ≠ gb193 ∧ k_ ≠ gb194)) k_ ∧ some k_ ≠ (u5 : Value).ownBlock)) (HL208_0.out) (fun k_ hk => ⟨⟨hk.2, ⟨hk.1.2.1, hk.1.2.2⟩⟩, hk.1.1⟩))).2.1 (Kd.V_F (Kd.V_mono (ok' := (fun k_ => ((fun k_ => some k_ ≠ (.slice (some ad208) t202.length co26 : Value).ownBlock ∧ k_ ≠ gb193 ∧ k_ ≠ gb194)) k_ ∧ some k_ ≠ (u5 : Value).ownBlock)) (HL208_0.out) (fun k_ hk => ⟨⟨hk.2, ⟨hk.1.2.1, hk.1.2.2⟩⟩, hk.1.1⟩))) (Kd.V_reads' (Kd.V_mono (ok' := (fun k_ => ((fun k_ => some k_ ≠ (.slice (some ad208) t202.length co26 : Value).ownBlock ∧ k_ ≠ gb193 ∧ k_ ≠ gb194)) k_ ∧ some k_ ≠ (u5 : Value).ownBlock)) (HL208_1.out) (fun k_ hk => ⟨⟨hk.2, ⟨hk.1.2.1, hk.1.2.2⟩⟩, hk.1.1⟩))).2.1 (Kd.V_F (Kd.V_mono (ok' := (fun k_ => ((fun k_ => some k_ ≠ (.slice (some ad208) t202.length co26 : Value).ownBlock ∧ k_ ≠ gb193 ∧ k_ ≠ gb194)) k_ ∧ some k_ ≠ (u5 : Value).ownBlock)) (HL208_1.out) (fun k_ hk => ⟨⟨hk.2, ⟨hk.1.2.1, hk.1.2.2⟩⟩, hk.1.1⟩))))); (case aB => exact (bS2 HB.out GE193.out GE194.out)); (case aF => exact (fun k_ hk => ⟨Kd.fresh' (Kd.N_lt (NU HO_4.out)) k_ hk, Kd.freshB (g := gb193) (o := .cells #[.slice A0_0 l0_0.length c0_0, .slice A0_1 l0_1.length c0_1] 26 (0, 0)) (kU BK193.out) k_ hk, Kd.freshB (g := gb194) (o := .cells #[.slice none 0 0, .slice none 0 0] 26 (0, 0)) (kU BK194.out) k_ hk⟩)); (case aO => exact (NU HO_5.out)); (case aS => exact (below_size (bS2 HB.out GE193.out GE194.out))); (case aL => have := LMc30.out; omega); intro v210 w31 ho hb hg hat; rw [← Ny209.out] at ho; have n0_ := Aside0.mk (Kd.N_afterv (ok := (fun k_ => k_ ≠ gb193 ∧ k_ ≠ gb194)) (by refine NU ?_; exact Kd.N_mono HO_4.out (fun _ hk => ⟨⟨hk.2.1, hk.2.2⟩, hk.1⟩)) hg hat); have n1_ := Aside0.mk (blk_grown (g := gb193) (o := .cells #[.slice A0_0 l0_0.length c0_0, .slice A0_1 l0_1.length c0_1] 26 (0, 0)) (kU BK193.out) hg (Kd.N_away HO_5.out (fun _ hk => hk.2.1))); have n2_ := Aside0.mk (blk_grown (g := gb194) (o := .cells #[.slice none 0 0, .slice none 0 0] 26 (0, 0)) (kU BK194.out) hg (Kd.N_away HO_5.out (fun _ hk => hk.2.2))); have n3_ := Aside0.mk (Kd.V_afterv (ok := (fun k_ => some k_ ≠ (.slice (some ad208) t202.length co26 : Value).ownBlock ∧ k_ ≠ gb193 ∧ k_ ≠ gb194)) (by refine VU ?_; exact Kd.V_mono HL208_0.out (fun _ hk => ⟨⟨hk.2, ⟨hk.1.2.1, hk.1.2.2⟩⟩, hk.1.1⟩)) hg hat); have n4_ := Aside0.mk (Kd.V_afterv (ok := (fun k_ => some k_ ≠ (.slice (some ad208) t202.length co26 : Value).ownBlock ∧ k_ ≠ gb193 ∧ k_ ≠ gb194)) (by refine VU ?_; exact Kd.V_mono HL208_1.out (fun _ hk => ⟨⟨hk.2, ⟨hk.1.2.1, hk.1.2.2⟩⟩, hk.1.1⟩)) hg hat); have n5_ := Aside0.mk (hb); have n6_ := Aside0.mk (ho); clear HO_4; clear BK193; clear BK194; clear HL208_0; clear HL208_1; clear HB; clear HO_5; have HO_4 := n0_; have BK193 := n1_; have BK194 := n2_; have HL208_0 := n3_; have HL208_1 := n4_; have HB := n5_; have HO211 := n6_; clear n0_ n1_ n2_ n3_ n4_ n5_ n6_; clear ho hb hg hat))
         go_roundg k1
         case measure => have := HK1.out; omega
         case rel => exact ⟨(y209), (wrap64 (x6_1 - 1)), (by first | rfl | (simp; done) | (simp [*]; done)), H', ⟨by have := HK1.out; omega⟩, ⟨by refine NU ?_; exact Kd.N_mono HO_4.out (fun _ hk => ⟨hk.2, ⟨hk.1.1, hk.1.2⟩⟩)⟩, ⟨by refine NU ?_; exact HO211.out⟩, ⟨by refine kU ?_; exact BK193.out⟩, ⟨by refine kU ?_; exact BK194.out⟩, ⟨by exact bS2 HB.out GE193.out GE194.out⟩⟩
        ·
         rw [if_neg c30] at H
         exact absurd H (by simp)
       ·
        rw [if_neg c29] at H
        exact absurd H (by simp)
      ·
       rw [if_neg c28] at H
       exact absurd H (by simp)
     ·
      rw [if_neg c27] at H
      have c27b0 : decide (0 ≤ x6_1) = false := decide_eq_false c27
      clear c27
      by_cases c32 : 1 ≤ (l0_0.length : Int)
      ·
       rw [if_pos c32] at H
       have c32b0 := eq_true c32
       have c32b1 : decide (1 ≤ (l0_0.length : Int)) = true := decide_eq_true c32
       clear c32
       replace H := Option.bind_eq_some_iff.mp H
       obtain ⟨⟨t213, t216⟩, A330, H⟩ := H
       replace H : (some (t213, t216, 0)) = some (r1, r2, r3) := H
       have A33 := Aside0.mk A330
       clear A330
       simp only [Option.some.injEq, Prod.mk.injEq] at H
       obtain ⟨rfl, rfl, rfl⟩ := H
       have hnb34 := NB193_194.out
       have hnc34 := NB194_193.out
       have hcz35_0 : wr.cell? ⟨gb193, 0, none⟩ = some (.slice A0_0 l0_0.length c0_0) := (blk_cell BK193.out 0).trans rfl
       have hcz35_1 : wr.cell? ⟨gb193, 1, none⟩ = some (.slice A0_1 l0_1.length c0_1) := (blk_cell BK193.out 1).trans rfl
       have hfz35_0 := blk_frozen BK193.out 0
       have hfz35_1 := blk_frozen BK193.out 1
       obtain ⟨i036, hi036, _, hsz36, _⟩ := info_parts info3
       obtain ⟨A36, hcut36, hA36, hC36⟩ := print_drop_of (P := Try.prog) (Value.int .i64) 0 22 3 .i64 Try.underlying22 hi036 hsz36 A0_0 c0_0 l0_0 1 (by omega) (of_decide_eq_true (by first | (with_reducible assumption) | assumption)) HC0_0.out
       have HR212 := Aside0.mk (Kd.C_of_reads (h1 := fun _ => rfl) (hA36 _ (Kd.reads_of_C HR0_0.out)))
       have HC212 := Aside0.mk hC36
       clear hA36 hC36 hi036 hsz36
       obtain ⟨Ao37, co37, eo37⟩ := Kd.N_slice HO_5.out
       subst eo37
       go_wp2_with (first | ((with_reducible refine gate_callee (f := 76) rfl ?_); refine goesL_ (some 38) rfl rfl Try.func76 (by kernel_rfl) rfl #[.slice Ao37 x5_1.length co37, .slice A36 (l0_0.drop 1).length (c0_0 - 1)] rfl (by (try simp only [List.map_toArray, List.map_cons, List.map_nil]); first | done | (rw [show (l0_0.drop 1).length = (l0_0.length - 1) from List.length_drop] <;> rfl) | rfl | (simp only [List.length_drop, List.length_take]; rfl)) ?_; (with_reducible refine (spec_l5Rows.calls k1 _ _ x5_1 _ _ (l0_0.drop 1) t213 t216 _ ?side1 ?side2 ?side3 ?side4 A33.out).mono ?_); (case side1 => exact cU (Kd.N_reads' HO_5.out).2.2); (case side2 => exact (Kd.N_reads' HO_5.out).2.1); (case side3 => exact cU (Kd.C_below HR212.out HB.out)); (case side4 => exact HC212.out); rintro e w38 ⟨v214, v217, rfl, ho0, ho1, hb⟩; refine ⟨_, rfl, ?_⟩; replace HO_4 := Aside0.mk (Kd.N_mono (Kd.N_told (Kd.N_told (Kd.N_old (NU HO_4.out) hb) (Kd.R_base ho0)) (Kd.R_base ho1)) (fun _ h_ => h_.1)); replace HO_5 := Aside0.mk (Kd.N_mono (Kd.N_told (Kd.N_told (Kd.N_old (NU HO_5.out) hb) (Kd.R_base ho0)) (Kd.R_base ho1)) (fun _ h_ => h_.1)); have HO215 := Aside0.mk (Kd.R_lower ho0 (below_size (bS2 HB.out GE193.out GE194.out))); have HO218 := Aside0.mk (Kd.R_lower ho1 (below_size (bS2 HB.out GE193.out GE194.out))); replace BK193 := Aside0.mk (kB BK193.out hb); replace BK194 := Aside0.mk (kB BK194.out hb); replace HB := Aside0.mk (below_step (bS2 HB.out GE193.out GE194.out) hb); (try clear hb); (try clear hb2); (try clear hk); (try clear hi); (try clear ho0); (try clear ho1); obtain ⟨Ao39, co39, eo39⟩ := Kd.R_slice HO215.out; subst eo39; have hcz40_0 : w38.cell? ⟨gb194, 0, none⟩ = some (.slice none 0 0) := (blk_cell BK194.out 0).trans rfl; have hcz40_1 : w38.cell? ⟨gb194, 1, none⟩ = some (.slice none 0 0) := (blk_cell BK194.out 1).trans rfl; have hfz40_0 := blk_frozen BK194.out 0; have hfz40_1 := blk_frozen BK194.out 1; obtain ⟨Ao41, co41, eo41⟩ := Kd.R_slice HO218.out; subst eo41))
       refine bodyPost_ret (results_ct rfl _ _ gb194 26 #[.slice Ao39 t213.length co39, .slice Ao41 t216.length co41] (0, 0) _ rfl (by refine kU ?_; refine blk_put (cs := #[.slice Ao39 t213.length co39, .slice none 0 0]) ?_ 1 _ rfl; refine kU ?_; refine blk_put (cs := #[.slice none 0 0, .slice none 0 0]) ?_ 0 _ rfl; refine kU ?_; exact BK194.out) Try.underlying26 rfl (by kernel_rfl)) rfl ?_
       exact ⟨_, _, by first | rfl | (simp [errW_none, errW_some] <;> rfl) | (simp [*, errW_none, errW_some] <;> rfl), by refine RU ?_; exact Kd.R_mono (Kd.R_far (p := ⟨gb194, 1, none⟩) (Kd.R_far (p := ⟨gb194, 0, none⟩) (Kd.R_types HO215.out BK194.out (by decide)) (fun _ hk => hk.2) (.slice Ao39 t213.length co39)) (fun _ hk => hk.2) (.slice Ao41 t216.length co41)) (fun _ hk => hk.1), by refine RU ?_; exact Kd.R_mono (Kd.R_far (p := ⟨gb194, 1, none⟩) (Kd.R_far (p := ⟨gb194, 0, none⟩) (Kd.R_types HO218.out BK194.out (by decide)) (fun _ hk => hk.2) (.slice Ao39 t213.length co39)) (fun _ hk => hk.2) (.slice Ao41 t216.length co41)) (fun _ hk => hk.1), by exact bS2 HB.out GE193.out GE194.out⟩
      ·
       rw [if_neg c32] at H
       exact absurd H (by simp)
 ·
  replace c3 := Bool.eq_false_iff.mpr c3
  subst c3
  have H1 : (some (([] : List Int), ([] : List Int), 1)) = some (r1, r2, r3) := by rw [if_neg (show ¬ (false = true) by decide)] at H; exact H
  clear H
  have H := H1
  clear H1
  simp only [Option.some.injEq, Prod.mk.injEq] at H
  obtain ⟨rfl, rfl, rfl⟩ := H
  go_enter Try.func29, Try.ntmps29
  go_wp2_with (first | ((with_reducible refine gate_dst (N := 1) rfl ?_); refine box_event ?hg (N := 1) ?hd (cs := #[.slice A0_0 l0_0.length c0_0, .slice A0_1 l0_1.length c0_1]) (t := 26) ?hr ?_; (case hd => rfl); (case hg => rfl); (case hr => first | (go_simp; done) | (go_simp; rfl)); intro gb193 hg w42 hbox hb; have BK193 := Aside0.mk (hbox); have GW193 := Aside0.mk ((by rw [hg]; exact (below_size (bU HB.out)) : w.heap.size ≤ gb193)); have GE193 := Aside0.mk ((by rw [hg]; exact (below_size (bU HB.out)) : w.heap.size ≤ gb193)); replace HB := Aside0.mk (below_step (bU HB.out) hb); clear hb hbox hg) | ((with_reducible refine gate_dst (N := 2) rfl ?_); refine box_event ?hg (N := 2) ?hd (cs := #[.slice none 0 0, .slice none 0 0]) (t := 26) ?hr ?_; (case hd => rfl); (case hg => rfl); (case hr => first | (go_simp; done) | (go_simp; rfl)); intro gb194 hg w43 hbox hb; have BK194 := Aside0.mk (hbox); have GW194 := Aside0.mk ((by rw [hg]; exact (below_size (bS1 HB.out GE193.out)) : w.heap.size ≤ gb194)); have GE194 := Aside0.mk ((by rw [hg]; exact (below_size (bS1 HB.out GE193.out)) : w.heap.size ≤ gb194)); replace HB := Aside0.mk (below_step (bS1 HB.out GE193.out) hb); have NB193_194 := Aside0.mk (kN BK193.out hg); have NB194_193 := Aside0.mk (kM BK193.out hg); replace BK193 := Aside0.mk (kB BK193.out hb); clear hb hbox hg; have hnb44 := NB193_194.out; have hnc44 := NB194_193.out; have hcz45_0 : w43.cell? ⟨gb193, 0, none⟩ = some (.slice A0_0 l0_0.length c0_0) := (blk_cell BK193.out 0).trans rfl; have hcz45_1 : w43.cell? ⟨gb193, 1, none⟩ = some (.slice A0_1 l0_1.length c0_1) := (blk_cell BK193.out 1).trans rfl; have hfz45_0 := blk_frozen BK193.out 0; have hfz45_1 := blk_frozen BK193.out 1) | ((with_reducible refine gate_callee (f := 34) rfl ?_); refine goesL_ (some 8) rfl rfl Try.func34 (by kernel_rfl) rfl #[.agg #[.slice A0_0 l0_0.length c0_0, .slice A0_1 l0_1.length c0_1]] rfl lU ?_; (with_reducible refine (spec_ArrayOk.calls k _ _ l0_0 _ _ l0_1 false _ ?side1 ?side2 ?side3 ?side4 A2.out).mono ?_); (case side1 => exact cU (Kd.C_below HR0_0.out HB.out)); (case side2 => exact HC0_0.out); (case side3 => exact cU (Kd.C_below HR0_1.out HB.out)); (case side4 => exact HC0_1.out); rintro e w46 ⟨rfl, hb⟩; refine ⟨_, rfl, ?_⟩; replace BK193 := Aside0.mk (kB BK193.out hb); replace BK194 := Aside0.mk (kB BK194.out hb); replace HB := Aside0.mk (below_step (bS2 HB.out GE193.out GE194.out) hb); (try clear hb); (try clear hb2); (try clear hk); (try clear hi); have hcz47_0 : w46.cell? ⟨gb194, 0, none⟩ = some (.slice none 0 0) := (blk_cell BK194.out 0).trans rfl; have hcz47_1 : w46.cell? ⟨gb194, 1, none⟩ = some (.slice none 0 0) := (blk_cell BK194.out 1).trans rfl; have hfz47_0 := blk_frozen BK194.out 0; have hfz47_1 := blk_frozen BK194.out 1))
  refine bodyPost_ret (results_ct rfl _ _ gb194 26 #[.slice none 0 0, .slice none 0 0] (0, 0) _ rfl (by refine kU ?_; refine blk_put (cs := #[.slice none 0 0, .slice none 0 0]) ?_ 1 _ rfl; refine kU ?_; refine blk_put (cs := #[.slice none 0 0, .slice none 0 0]) ?_ 0 _ rfl; refine kU ?_; exact BK194.out) Try.underlying26 rfl (by kernel_rfl)) rfl ?_
  exact ⟨_, _, by first | rfl | (simp [errW_none, errW_some] <;> rfl) | (simp [*, errW_none, errW_some] <;> rfl), by first | exact Kd.R_nil _ _ _ _ _ | exact Kd.N_nil _ _ _ _ _ | exact Kd.V_nil _ _ _ _ _ | exact Kd.Q_nil _ _ _ _ _ | exact Kd.S_nil _ _ _ _ _, by first | exact Kd.R_nil _ _ _ _ _ | exact Kd.N_nil _ _ _ _ _ | exact Kd.V_nil _ _ _ _ _ | exact Kd.Q_nil _ _ _ _ _ | exact Kd.S_nil _ _ _ _ _, by exact bS2 HB.out GE193.out GE194.out⟩

/-! ### impl_within: function 85 -/
def impl_within.f (a0 : Int) (a1 : Int) (a2 : Int) : Option (Bool) := if a0 ≥ a1 then (some (decide (a0 ≤ a2))) else (some false)
set_option maxHeartbeats 8000000 in
set_option maxRecDepth 100000 in
theorem impl_within.calls (a0 : Int) (a1 : Int) (a2 : Int) (r : Bool) (w : World) (h : impl_within.f a0 a1 a2 = some r) :
  Calls Try.prog 85 #[.int .i64 a0, .int .i64 a1, .int .i64 a2] w fun e w' => e = .returned (.bool r) ∧ Drawn0 w w' := by
 have H : (if a0 ≥ a1 then (some (decide (a0 ≤ a2))) else (some false)) = some r := h
 clear h
 by_cases c4 : a0 ≥ a1
 ·
  rw [if_pos c4] at H
  have c4b0 : decide (a1 ≤ a0) = true := decide_eq_true c4
  clear c4
  obtain rfl := Option.some.inj H
  go_enter Try.func85, Try.ntmps85
  go_wp2
  go_ret
  exact ⟨rU, dU⟩
 ·
  rw [if_neg c4] at H
  have c4b0 : decide (a1 ≤ a0) = false := decide_eq_false c4
  clear c4
  obtain rfl := Option.some.inj H
  go_enter Try.func85, Try.ntmps85
  go_wp2
  go_ret
  exact ⟨rU, dU⟩

/-! ### impl_SizeOf: function 74 -/
def impl_SizeOf.l0 : Nat → Int → List Int → Int → Int → Option (Int)
 | 0, _, _, _, _ => none
 | k + 1, x3, x9, x10, x11 => if x11 < x10 then (if 0 ≤ x11 then (if x11 < (x9.length : Int) then ((impl_within.f (rd x9 x11) 0 300).bind fun t220 => (if t220 = true then (impl_SizeOf.l0 k (wrap64 (x3 * (rd x9 x11))) x9 x10 (wrap64 (x11 + 1))) else (some (-1)))) else (none)) else (none)) else (if x3 > 300 then (some (-1)) else (some x3))
def impl_SizeOf.f (k : Nat) (l0 : List Int) : Option (Int) := if (l0.length : Int) > 3 then (some (-1)) else (impl_SizeOf.l0 k 1 l0 (l0.length : Int) 0)
set_option maxHeartbeats 8000000 in
set_option maxRecDepth 100000 in
theorem impl_SizeOf.calls (k : Nat) (A0 : Option Addr) (c0 : Nat) (l0 : List Int) (r : Int) (w : World) (hr0 : Kd.C (Kd.int .i64) w A0 l0.length l0) (hc0 : l0.length ≤ c0) (h : impl_SizeOf.f k l0 = some r) :
  Calls Try.prog 74 #[.slice A0 l0.length c0] w fun e w' => e = .returned (.int .i64 r) ∧ Drawn0 w w' := by
 have HR0 := Aside0.mk hr0
 have HC0 := Aside0.mk hc0
 clear hr0 hc0
 have H : (if (l0.length : Int) > 3 then (some (-1)) else (impl_SizeOf.l0 k 1 l0 (l0.length : Int) 0)) = some r := h
 clear h
 by_cases c2 : (l0.length : Int) > 3
 ·
  rw [if_pos c2] at H
  have c2b0 : decide (3 < (l0.length : Int)) = true := decide_eq_true c2
  have c2b1 : decide (3 < l0.length) = true := decide_eq_true (by omega)
  clear c2
  obtain rfl := Option.some.inj H
  go_enter Try.func74, Try.ntmps74
  go_wp2
  go_ret
  exact ⟨rU, dU⟩
 ·
  rw [if_neg c2] at H
  have c2b0 : decide (3 < (l0.length : Int)) = false := decide_eq_false c2
  have c2b1 : decide (3 < l0.length) = false := decide_eq_false (by omega)
  clear c2
  have H' := Aside0.mk H
  clear H
  go_enter Try.func74, Try.ntmps74
  go_wp2
  go_loopg [3, 11] k (fun kq v3 v11 w' => ∃ (x3_1 : Int) (x11_1 : Int), v3 = .int .i64 x3_1 ∧ v11 = .int .i64 x11_1 ∧ Aside0 (impl_SizeOf.l0 kq x3_1 l0 (l0.length : Int) x11_1 = some r) ∧ Aside0 (kq ≤ k) ∧ Drawn0 w w')
  case atStart => exact ⟨(1), (0), (by first | rfl | (simp; done) | (simp [*]; done)), (by first | rfl | (simp; done) | (simp [*]; done)), H', ⟨Nat.le_refl _⟩, by repeat (first | exact Drawn0.refl _ | apply Drawn0.step)⟩
  case round =>
   clear H'
   try clear c2
   try clear c2b0
   try clear c2b1
   try clear p2
   obtain ⟨x3_1, x11_1, rfl, rfl, HA, HK1, ⟨m1, rfl⟩⟩ := hrel
   cases gk with
   | zero => exact absurd HA.out (by simp [impl_SizeOf.l0])
   | succ k1 =>
    have H := HA.out
    clear HA
    simp only [impl_SizeOf.l0] at H
    by_cases c3 : x11_1 < (l0.length : Int)
    ·
     rw [if_pos c3] at H
     have c3b0 : decide (x11_1 < (l0.length : Int)) = true := decide_eq_true c3
     clear c3
     by_cases c4 : 0 ≤ x11_1
     ·
      rw [if_pos c4] at H
      have c4b0 : decide (0 ≤ x11_1) = true := decide_eq_true c4
      clear c4
      by_cases c5 : x11_1 < (l0.length : Int)
      ·
       rw [if_pos c5] at H
       have c5b0 : decide (x11_1 < (l0.length : Int)) = true := decide_eq_true c5
       clear c5
       replace H := Option.bind_eq_some_iff.mp H
       obtain ⟨t220, A60, H⟩ := H
       replace H : (if t220 = true then (impl_SizeOf.l0 k1 (wrap64 (x3_1 * (rd l0 x11_1))) l0 (l0.length : Int) (wrap64 (x11_1 + 1))) else (some (-1))) = some r := H
       have A6 := Aside0.mk A60
       clear A60
       by_cases c7 : t220 = true
       ·
        subst c7
        have H1 : (impl_SizeOf.l0 k1 (wrap64 (x3_1 * (rd l0 x11_1))) l0 (l0.length : Int) (wrap64 (x11_1 + 1))) = some r := by rw [if_pos rfl] at H; exact H
        clear H
        have H := H1
        clear H1
        have H' := Aside0.mk H
        clear H
        have p219 : 0 ≤ (x11_1 : Int) := of_decide_eq_true (by first | (with_reducible assumption) | assumption)
        have q219 : x11_1 < (l0.length : Int) := of_decide_eq_true (by first | (with_reducible assumption) | assumption)
        obtain ⟨ad219, e219, hx219_0⟩ := Kd.at_int HR0.out x11_1 p219 q219
        cases e219
        replace p219 := eq_true p219
        replace q219 := eq_true q219
        go_wp2_with (first | ((with_reducible refine gate_callee (f := 85) rfl ?_); refine goesL_ (some 16) rfl rfl Try.func85 (by kernel_rfl) rfl #[.int .i64 (rd l0 x11_1), .int .i64 0, .int .i64 300] rfl lU ?_; (with_reducible refine (impl_within.calls (rd l0 x11_1) 0 300 true _ A6.out).mono ?_); rintro e w' ⟨rfl, ⟨nd, rfl⟩⟩; refine ⟨_, rfl, ?_⟩))
        go_roundg k1
        case measure => have := HK1.out; omega
        case rel => exact ⟨(wrap64 (x3_1 * (rd l0 x11_1))), (wrap64 (x11_1 + 1)), (by first | rfl | (simp; done) | (simp [*]; done)), (by first | rfl | (simp; done) | (simp [*]; done)), H', ⟨by have := HK1.out; omega⟩, by repeat (first | exact Drawn0.refl _ | apply Drawn0.step)⟩
       ·
        replace c7 := Bool.eq_false_iff.mpr c7
        subst c7
        have H1 : (some (-1)) = some r := by rw [if_neg (show ¬ (false = true) by decide)] at H; exact H
        clear H
        have H := H1
        clear H1
        obtain rfl := Option.some.inj H
        have p219 : 0 ≤ (x11_1 : Int) := of_decide_eq_true (by first | (with_reducible assumption) | assumption)
        have q219 : x11_1 < (l0.length : Int) := of_decide_eq_true (by first | (with_reducible assumption) | assumption)
        obtain ⟨ad219, e219, hx219_0⟩ := Kd.at_int HR0.out x11_1 p219 q219
        cases e219
        replace p219 := eq_true p219
        replace q219 := eq_true q219
        go_wp2_with (first | ((with_reducible refine gate_callee (f := 85) rfl ?_); refine goesL_ (some 16) rfl rfl Try.func85 (by kernel_rfl) rfl #[.int .i64 (rd l0 x11_1), .int .i64 0, .int .i64 300] rfl lU ?_; (with_reducible refine (impl_within.calls (rd l0 x11_1) 0 300 false _ A6.out).mono ?_); rintro e w' ⟨rfl, ⟨nd, rfl⟩⟩; refine ⟨_, rfl, ?_⟩))
        go_ret
        exact ⟨rU, dU⟩
      ·
       rw [if_neg c5] at H
       exact absurd H (by simp)
     ·
      rw [if_neg c4] at H
      exact absurd H (by simp)
    ·
     rw [if_neg c3] at H
     have c3b0 : decide (x11_1 < (l0.length : Int)) = false := decide_eq_false c3
     clear c3
     by_cases c8 : x3_1 > 300
     ·
      rw [if_pos c8] at H
      have c8b0 : decide (300 < x3_1) = true := decide_eq_true c8
      clear c8
      obtain rfl := Option.some.inj H
      go_wp2
      go_ret
      exact ⟨rU, dU⟩
     ·
      rw [if_neg c8] at H
      have c8b0 : decide (300 < x3_1) = false := decide_eq_false c8
      clear c8
      obtain rfl := Option.some.inj H
      go_wp2
      go_ret
      exact ⟨rU, dU⟩

/-! ### impl_NumOk: function 83 -/
def impl_NumOk.f (a0 : Int) : Option (Bool) := (impl_within.f a0 (-1000000000000) 1000000000000).bind fun t221 => (some t221)
set_option maxHeartbeats 8000000 in
set_option maxRecDepth 100000 in
theorem impl_NumOk.calls (a0 : Int) (r : Bool) (w : World) (h : impl_NumOk.f a0 = some r) :
  Calls Try.prog 83 #[.int .i64 a0] w fun e w' => e = .returned (.bool r) ∧ Drawn0 w w' := by
 have H : ((impl_within.f a0 (-1000000000000) 1000000000000).bind fun t221 => (some t221)) = some r := h
 clear h
 replace H := Option.bind_eq_some_iff.mp H
 obtain ⟨t221, A20, H⟩ := H
 replace H : (some t221) = some r := H
 have A2 := Aside0.mk A20
 clear A20
 obtain rfl := Option.some.inj H
 go_enter Try.func83, Try.ntmps83
 go_wp2_with (first | ((with_reducible refine gate_callee (f := 85) rfl ?_); refine goesL_ (some 4) rfl rfl Try.func85 (by kernel_rfl) rfl #[.int .i64 a0, .int .i64 (-1000000000000), .int .i64 1000000000000] rfl lU ?_; (with_reducible refine (impl_within.calls a0 (-1000000000000) 1000000000000 t221 _ A2.out).mono ?_); rintro e w' ⟨rfl, ⟨nd, rfl⟩⟩; refine ⟨_, rfl, ?_⟩))
 go_ret
 exact ⟨rU, dU⟩

/-! ### impl_ArrayOk_lit1: function 82 -/
def impl_ArrayOk_lit1.f (a0 : Int) : Option (Bool) := (impl_NumOk.f a0).bind fun t222 => (some (!t222))
set_option maxHeartbeats 8000000 in
set_option maxRecDepth 100000 in
theorem impl_ArrayOk_lit1.calls (a0 : Int) (r : Bool) (w : World) (h : impl_ArrayOk_lit1.f a0 = some r) :
  Calls Try.prog 82 #[.int .i64 a0] w fun e w' => e = .returned (.bool r) ∧ Drawn0 w w' := by
 have H : ((impl_NumOk.f a0).bind fun t222 => (some (!t222))) = some r := h
 clear h
 replace H := Option.bind_eq_some_iff.mp H
 obtain ⟨t222, A20, H⟩ := H
 replace H : (some (!t222)) = some r := H
 have A2 := Aside0.mk A20
 clear A20
 obtain rfl := Option.some.inj H
 go_enter Try.func82, Try.ntmps82
 go_wp2_with (first | ((with_reducible refine gate_callee (f := 83) rfl ?_); refine goesL_ (some 4) rfl rfl Try.func83 (by kernel_rfl) rfl #[.int .i64 a0] rfl lU ?_; (with_reducible refine (impl_NumOk.calls a0 t222 _ A2.out).mono ?_); rintro e w' ⟨rfl, ⟨nd, rfl⟩⟩; refine ⟨_, rfl, ?_⟩))
 go_ret
 exact ⟨rU, dU⟩

/-! ### slices_IndexFunc_ArrayOk1: function 112 -/
def slices_IndexFunc_ArrayOk1.l0 : Nat → List Int → Int → Int → Option (Int)
 | 0, _, _, _ => none
 | k + 1, x0, x7, x8 => if x8 < x7 then (if 0 ≤ x8 then (if x8 < (x0.length : Int) then ((impl_ArrayOk_lit1.f (rd x0 x8)).bind fun t224 => (if t224 = true then (some x8) else (slices_IndexFunc_ArrayOk1.l0 k x0 x7 (wrap64 (x8 + 1))))) else (none)) else (none)) else (some (-1))
def slices_IndexFunc_ArrayOk1.f (k : Nat) (l0 : List Int) : Option (Int) := slices_IndexFunc_ArrayOk1.l0 k l0 (l0.length : Int) 0
set_option maxHeartbeats 8000000 in
set_option maxRecDepth 100000 in
theorem slices_IndexFunc_ArrayOk1.calls (k : Nat) (A0 : Option Addr) (c0 : Nat) (l0 : List Int) (r : Int) (w : World) (hr0 : Kd.C (Kd.int .i64) w A0 l0.length l0) (hc0 : l0.length ≤ c0) (h : slices_IndexFunc_ArrayOk1.f k l0 = some r) :
  Calls Try.prog 112 #[.slice A0 l0.length c0, .func (.func 82) #[] #[]] w fun e w' => e = .returned (.int .i64 r) ∧ Drawn0 w w' := by
 have HR0 := Aside0.mk hr0
 have HC0 := Aside0.mk hc0
 clear hr0 hc0
 have H : (slices_IndexFunc_ArrayOk1.l0 k l0 (l0.length : Int) 0) = some r := h
 clear h
 have H' := Aside0.mk H
 clear H
 go_enter Try.func112, Try.ntmps112
 go_wp2
 go_loopg [8] k (fun kq v8 w' => ∃ (x8_1 : Int), v8 = .int .i64 x8_1 ∧ Aside0 (slices_IndexFunc_ArrayOk1.l0 kq l0 (l0.length : Int) x8_1 = some r) ∧ Aside0 (kq ≤ k) ∧ Drawn0 w w')
 case atStart => exact ⟨(0), (by first | rfl | (simp; done) | (simp [*]; done)), H', ⟨Nat.le_refl _⟩, by repeat (first | exact Drawn0.refl _ | apply Drawn0.step)⟩
 case round =>
  clear H'
  obtain ⟨x8_1, rfl, HA, HK1, ⟨m1, rfl⟩⟩ := hrel
  cases gk with
  | zero => exact absurd HA.out (by simp [slices_IndexFunc_ArrayOk1.l0])
  | succ k1 =>
   have H := HA.out
   clear HA
   simp only [slices_IndexFunc_ArrayOk1.l0] at H
   by_cases c2 : x8_1 < (l0.length : Int)
   ·
    rw [if_pos c2] at H
    have c2b0 : decide (x8_1 < (l0.length : Int)) = true := decide_eq_true c2
    clear c2
    by_cases c3 : 0 ≤ x8_1
    ·
     rw [if_pos c3] at H
     have c3b0 : decide (0 ≤ x8_1) = true := decide_eq_true c3
     clear c3
     by_cases c4 : x8_1 < (l0.length : Int)
     ·
      rw [if_pos c4] at H
      have c4b0 : decide (x8_1 < (l0.length : Int)) = true := decide_eq_true c4
      clear c4
      replace H := Option.bind_eq_some_iff.mp H
      obtain ⟨t224, A50, H⟩ := H
      replace H : (if t224 = true then (some x8_1) else (slices_IndexFunc_ArrayOk1.l0 k1 l0 (l0.length : Int) (wrap64 (x8_1 + 1)))) = some r := H
      have A5 := Aside0.mk A50
      clear A50
      by_cases c6 : t224 = true
      ·
       subst c6
       have H1 : (some x8_1) = some r := by rw [if_pos rfl] at H; exact H
       clear H
       have H := H1
       clear H1
       obtain rfl := Option.some.inj H
       have p223 : 0 ≤ (x8_1 : Int) := of_decide_eq_true (by first | (with_reducible assumption) | assumption)
       have q223 : x8_1 < (l0.length : Int) := of_decide_eq_true (by first | (with_reducible assumption) | assumption)
       obtain ⟨ad223, e223, hx223_0⟩ := Kd.at_int HR0.out x8_1 p223 q223
       cases e223
       replace p223 := eq_true p223
       replace q223 := eq_true q223
       go_wp2_with (first | (go_at_call 82; (repeat rw [i64_w]); (with_reducible refine (impl_ArrayOk_lit1.calls (rd l0 x8_1) true _ A5.out).mono ?_); rintro e w' ⟨rfl, ⟨nd, rfl⟩⟩))
       go_ret
       exact ⟨rU, dU⟩
      ·
       replace c6 := Bool.eq_false_iff.mpr c6
       subst c6
       have H1 : (slices_IndexFunc_ArrayOk1.l0 k1 l0 (l0.length : Int) (wrap64 (x8_1 + 1))) = some r := by rw [if_neg (show ¬ (false = true) by decide)] at H; exact H
       clear H
       have H := H1
       clear H1
       have H' := Aside0.mk H
       clear H
       have p223 : 0 ≤ (x8_1 : Int) := of_decide_eq_true (by first | (with_reducible assumption) | assumption)
       have q223 : x8_1 < (l0.length : Int) := of_decide_eq_true (by first | (with_reducible assumption) | assumption)
       obtain ⟨ad223, e223, hx223_0⟩ := Kd.at_int HR0.out x8_1 p223 q223
       cases e223
       replace p223 := eq_true p223
       replace q223 := eq_true q223
       go_wp2_with (first | (go_at_call 82; (repeat rw [i64_w]); (with_reducible refine (impl_ArrayOk_lit1.calls (rd l0 x8_1) false _ A5.out).mono ?_); rintro e w' ⟨rfl, ⟨nd, rfl⟩⟩))
       go_roundg k1
       case measure => have := HK1.out; omega
       case rel => exact ⟨(wrap64 (x8_1 + 1)), (by first | rfl | (simp; done) | (simp [*]; done)), H', ⟨by have := HK1.out; omega⟩, by repeat (first | exact Drawn0.refl _ | apply Drawn0.step)⟩
     ·
      rw [if_neg c4] at H
      exact absurd H (by simp)
    ·
     rw [if_neg c3] at H
     exact absurd H (by simp)
   ·
    rw [if_neg c2] at H
    have c2b0 : decide (x8_1 < (l0.length : Int)) = false := decide_eq_false c2
    clear c2
    obtain rfl := Option.some.inj H
    go_wp2
    go_ret
    exact ⟨rU, dU⟩

end Go.Proofs.Ytcnbajdnlkcjjaa.PFnExactTurn
