/- The walk of what a law reaches, for the law's row: written by a program of this session; it has no condition of its own. -/
import Derived.Test.YtnpcjppcoejgmaaPFnExactPickx0
import Derived.Test.YtnpcjppcoejgmaaQ
import Derived.Test.YtnpcjppcoejgmaaPFnExactPickx2
namespace Go.Proofs.Ytnpcjppcoejgmaa.PFnExactPick
open Go.RowKit Go.Proofs.YtnpcjppcoejgmaaW.PrintWords Go.Proofs.YtnpcjppcoejgmaaW.PrintLast Go.Proofs.YtnpcjppcoejgmaaW.PrintMore Go.Proofs.YtnpcjppcoejgmaaQ
attribute [local go_sem] max2_int min2_int max_two min_two max_three min_three max_four min_four   -- for this text's walks alone
set_option linter.unusedVariables false
set_option linter.unusedSimpArgs false

/-! ### spec_l3Rows: function 19 -/
def spec_l3Rows.l0 : Nat → List (S28) → Int → Int → List Int → List Int → Option ((List (S28)))
 | 0, _, _, _, _, _ => none
 | k + 1, x3, x4, x5, x140000, x140001 => if 0 < (x140000.length : Int) then (if x5 < (rd x140000 0) then ((some (([] : List Int) : List Int)).bind fun y146 => (if 1 ≤ (x140000.length : Int) then (if y146.length + (x140000.drop 1).length < 17592186044416 then ((some (([] : List Int) : List Int)).bind fun y153 => (if 0 ≤ (wrap64 (x5 * x4)) then (if (wrap64 (x5 * x4)) ≤ (wrap64 ((wrap64 (x5 * x4)) + x4)) then (if (wrap64 ((wrap64 (x5 * x4)) + x4)) ≤ (x140001.length : Int) then (if y153.length + ((x140001.take ((wrap64 ((wrap64 (x5 * x4)) + x4)) : Int).toNat).drop ((wrap64 (x5 * x4)) : Int).toNat).length < 17592186044416 then (if x3.length < 2932031007402 then (spec_l3Rows.l0 k (x3 ++ [(⟨(y146 ++ (x140000.drop 1)), (y153 ++ ((x140001.take ((wrap64 ((wrap64 (x5 * x4)) + x4)) : Int).toNat).drop ((wrap64 (x5 * x4)) : Int).toNat))⟩ : S28)]) x4 (wrap64 (x5 + 1)) x140000 x140001) else (none)) else (none)) else (none)) else (none)) else (none))) else (none)) else (none))) else (some x3)) else (none)
def spec_l3Rows.f (k : Nat) (l0_0 : List Int) (l0_1 : List Int) : Option ((List (S28))) := if 1 ≤ (l0_0.length : Int) then ((spec_SizeOf.f k (l0_0.drop 1)).bind fun t144 => (spec_l3Rows.l0 k (([] : List (S28))) t144 0 l0_0 l0_1)) else (none)
def spec_l3Rows.T6 : Bool × List (List Nat × List Nat) := (true, [([], []), ([], []), ([], []), ([2], [2]), ([3], [3]), ([1, 4], [1, 4]), ([], []), ([], []), ([7], [7]), ([], []), ([], []), ([9, 10], [9, 10]), ([], []), ([], []), ([12, 13], [12, 13]), ([], []), ([14, 15], [14, 15]), ([8, 11, 16], [8, 11, 16]), ([6, 17, 5], [6, 17]), ([5, 18], [5, 18]), ([19], [19]), ([0, 20, 18], [0, 20]), ([21, 21, 0, 1, 2, 3, 4, 5, 6, 7, 8, 9, 10, 11, 12, 13, 14, 15, 16, 17, 18, 19, 20, 21], [0, 21])])
def spec_l3Rows.B6 : List Nat := [0, 0, 0, 4, 12, 30, 0, 0, 128, 0, 0, 1536, 0, 0, 12288, 0, 61440, 130944, 262142, 524286, 1048574, 2097151, 4194303]
theorem spec_l3Rows.tab6 : rtab .any (opsOf Try.f19 6) = spec_l3Rows.T6 := by kernel_rfl
theorem spec_l3Rows.bits6 : waitsOk spec_l3Rows.T6.2 spec_l3Rows.B6 = true := by kernel_rfl
set_option maxHeartbeats 8000000 in
set_option maxRecDepth 100000 in
theorem spec_l3Rows.calls (k : Nat) (A0_0 : Option Addr) (c0_0 : Nat) (l0_0 : List Int) (A0_1 : Option Addr) (c0_1 : Nat) (l0_1 : List Int) (r : List (S28)) (w : World) (hr0_0 : Kd.C (Kd.int .i64) w A0_0 l0_0.length l0_0) (hc0_0 : l0_0.length ≤ c0_0) (hr0_1 : Kd.C (Kd.int .i64) w A0_1 l0_1.length l0_1) (hc0_1 : l0_1.length ≤ c0_1) (h : spec_l3Rows.f k l0_0 l0_1 = some r) :
  Calls Try.prog 19 #[.agg #[.slice A0_0 l0_0.length c0_0, .slice A0_1 l0_1.length c0_1]] w fun e w' => ∃ v0_ : Value, e = .returned (v0_) ∧ Kd.S k28 28 w' w.heap.size (fun _ => True) v0_ r ∧ Below w.heap.size w w' := by
 have hu28 := Try.underlying28
 have HR0_0 := Aside0.mk hr0_0
 have HC0_0 := Aside0.mk hc0_0
 clear hr0_0 hc0_0
 have HR0_1 := Aside0.mk hr0_1
 have HC0_1 := Aside0.mk hc0_1
 clear hr0_1 hc0_1
 have HB := Aside0.mk (Below.refl w.heap.size w)
 have H : (if 1 ≤ (l0_0.length : Int) then ((spec_SizeOf.f k (l0_0.drop 1)).bind fun t144 => (spec_l3Rows.l0 k (([] : List (S28))) t144 0 l0_0 l0_1)) else (none)) = some r := h
 clear h
 obtain ⟨y140, hy140⟩ : ∃ y_ : List (S28), y_ = (([] : List (S28))) := ⟨_, rfl⟩
 replace H : (if 1 ≤ (l0_0.length : Int) then ((spec_SizeOf.f k (l0_0.drop 1)).bind fun t144 => (spec_l3Rows.l0 k y140 t144 0 l0_0 l0_1)) else (none)) = some r := by first | (rw [hy140]; with_reducible exact H) | (have H2_ := (Option.bind_some _ _).symm.trans H; rw [hy140]; with_reducible exact H2_) | (have H2_ := (Option.bind_some _ _).symm.trans H; with_reducible exact H2_) | with_reducible exact H | (rw [hy140]; exact H) | exact H
 have Ny140 := Aside0.mk hy140
 clear hy140
 by_cases c2 : 1 ≤ (l0_0.length : Int)
 ·
  rw [if_pos c2] at H
  have c2b0 := eq_true c2
  have c2b1 : decide (1 ≤ (l0_0.length : Int)) = true := decide_eq_true c2
  clear c2
  replace H := Option.bind_eq_some_iff.mp H
  obtain ⟨t144, A30, H⟩ := H
  replace H : (spec_l3Rows.l0 k y140 t144 0 l0_0 l0_1) = some r := H
  have A3 := Aside0.mk A30
  clear A30
  have H' := Aside0.mk H
  clear H
  go_enter Try.func19, Try.ntmps19
  go_wp2_with (first | ((with_reducible refine gate_dst (N := 1) rfl ?_); refine box_event ?hg (N := 1) ?hd (cs := #[.slice A0_0 l0_0.length c0_0, .slice A0_1 l0_1.length c0_1]) (t := 28) ?hr ?_; (case hd => rfl); (case hg => rfl); (case hr => first | (go_simp; done) | (go_simp; rfl)); intro gb139 hg w4 hbox hb; have BK139 := Aside0.mk (hbox); have GW139 := Aside0.mk ((by rw [hg]; exact (below_size (bU HB.out)) : w.heap.size ≤ gb139)); have GE139 := Aside0.mk ((by rw [hg]; exact (below_size (bU HB.out)) : w.heap.size ≤ gb139)); replace HB := Aside0.mk (below_step (bU HB.out) hb); clear hb hbox hg) | ((with_reducible refine gate_dst (N := 6) rfl ?_); refine Kd.S_lit k28 _ 28 ?hg (N := 6) ?hd (xs := ([] : List (S28))) (inner := []) (ok := fun _ => True) (okp := fun _ => True) ?hr ?hp (fun _ hk => hk) trivial (Below.refl _ _) (Nat.le_refl _) (by simp) ?_; (case hd => rfl); (case hg => rfl); (case hr => first | (go_simp; done) | (go_simp; rfl)); (case hp => exact (Reps.none _ _)); intro v141 w5 ho6 hb hg_ hnew_; clear hg_ hnew_; (first | rw [← Ny140.out] at ho6 | (simp only [Int.reduceToNat] at ho6; rw [← Ny140.out] at ho6)); have HO142 := Aside0.mk (Kd.S_lower (Kd.S_newB ho6 (g := gb139) (o := .cells #[.slice A0_0 l0_0.length c0_0, .slice A0_1 l0_1.length c0_1] 28 (0, 0)) (kU BK139.out)) (below_size (bS1 HB.out GE139.out))); replace BK139 := Aside0.mk (kB BK139.out hb); replace HB := Aside0.mk (below_step (bS1 HB.out GE139.out) hb); clear hb ho6; have hcz7_0 : w5.cell? ⟨gb139, 0, none⟩ = some (.slice A0_0 l0_0.length c0_0) := (blk_cell BK139.out 0).trans rfl; have hcz7_1 : w5.cell? ⟨gb139, 1, none⟩ = some (.slice A0_1 l0_1.length c0_1) := (blk_cell BK139.out 1).trans rfl; have hfz7_0 := blk_frozen BK139.out 0; have hfz7_1 := blk_frozen BK139.out 1; obtain ⟨i08, hi08, _, hsz8, _⟩ := info_parts info3; obtain ⟨A8, hcut8, hA8, hC8⟩ := print_drop_of (P := Try.prog) (Value.int .i64) 0 22 3 .i64 Try.underlying22 hi08 hsz8 A0_0 c0_0 l0_0 1 (by omega) (of_decide_eq_true (by first | (with_reducible assumption) | assumption)) HC0_0.out; have HR143 := Aside0.mk (Kd.C_of_reads (h1 := fun _ => rfl) (hA8 _ (Kd.reads_of_C HR0_0.out))); have HC143 := Aside0.mk hC8; clear hA8 hC8 hi08 hsz8) | ((with_reducible refine gate_callee (f := 31) rfl ?_); refine goesL_ (some 10) rfl rfl Try.func31 (by kernel_rfl) rfl #[.slice A8 (l0_0.drop 1).length (c0_0 - 1)] rfl (by (try simp only [List.map_toArray, List.map_cons, List.map_nil]); first | done | (rw [show (l0_0.drop 1).length = (l0_0.length - 1) from List.length_drop] <;> rfl) | rfl | (simp only [List.length_drop, List.length_take]; rfl)) ?_; (with_reducible refine (spec_SizeOf.calls k _ _ (l0_0.drop 1) t144 _ ?side1 ?side2 A3.out).mono ?_); (case side1 => exact cU (Kd.C_below HR143.out HB.out)); (case side2 => exact HC143.out); rintro e w' ⟨rfl, ⟨nd, rfl⟩⟩; refine ⟨_, rfl, ?_⟩))
  go_loopg [3, 5] k (fun kq v3 v5 w' => ∃ (x3_1 : List (S28)) (x5_1 : Int), v5 = .int .i64 x5_1 ∧ Aside0 (spec_l3Rows.l0 kq x3_1 t144 x5_1 l0_0 l0_1 = some r) ∧ Aside0 (kq ≤ k) ∧ Aside0 (Kd.S k28 28 w' w.heap.size (fun k_ => k_ ≠ gb139) v3 x3_1) ∧ Aside0 (w'.heap[gb139]? = some (.cells #[(.slice A0_0 l0_0.length c0_0), (.slice A0_1 l0_1.length c0_1)] 28 (0, 0))) ∧ Aside0 (Below w.heap.size w w'))
  case atStart => exact ⟨(y140), (0), (by first | rfl | (simp; done) | (simp [*]; done)), H', ⟨Nat.le_refl _⟩, ⟨by refine SU ?_; exact Kd.S_mono HO142.out (fun _ hk => hk.2)⟩, ⟨by refine kU ?_; exact BK139.out⟩, ⟨by exact bS1 HB.out GE139.out⟩⟩
  case round =>
   clear H'
   try clear c1
   try clear c2
   try clear c2b0
   try clear c2b1
   try clear p2
   try clear c3
   try clear hcz7_0
   try clear hcz7_1
   try clear hfz7_0
   try clear hfz7_1
   obtain ⟨x3_1, x5_1, rfl, HA, HK1, HO_3, BK139, HB⟩ := hrel
   cases gk with
   | zero => exact absurd HA.out (by simp [spec_l3Rows.l0])
   | succ k1 =>
    have H := HA.out
    clear HA
    simp only [spec_l3Rows.l0] at H
    by_cases c9 : 0 < (l0_0.length : Int)
    ·
     rw [if_pos c9] at H
     have c9b0 : decide (0 < (l0_0.length : Int)) = true := decide_eq_true c9
     have c9b1 : decide (0 < l0_0.length) = true := decide_eq_true (by omega)
     clear c9
     by_cases c10 : x5_1 < (rd l0_0 0)
     ·
      rw [if_pos c10] at H
      have c10b0 : decide (x5_1 < (rd l0_0 0)) = true := decide_eq_true c10
      clear c10
      obtain ⟨y146, hy146⟩ : ∃ y_ : List Int, y_ = (([] : List Int)) := ⟨_, rfl⟩
      replace H : (if 1 ≤ (l0_0.length : Int) then (if y146.length + (l0_0.drop 1).length < 17592186044416 then ((some (([] : List Int) : List Int)).bind fun y153 => (if 0 ≤ (wrap64 (x5_1 * t144)) then (if (wrap64 (x5_1 * t144)) ≤ (wrap64 ((wrap64 (x5_1 * t144)) + t144)) then (if (wrap64 ((wrap64 (x5_1 * t144)) + t144)) ≤ (l0_1.length : Int) then (if y153.length + ((l0_1.take ((wrap64 ((wrap64 (x5_1 * t144)) + t144)) : Int).toNat).drop ((wrap64 (x5_1 * t144)) : Int).toNat).length < 17592186044416 then (if x3_1.length < 2932031007402 then (spec_l3Rows.l0 k1 (x3_1 ++ [(⟨(y146 ++ (l0_0.drop 1)), (y153 ++ ((l0_1.take ((wrap64 ((wrap64 (x5_1 * t144)) + t144)) : Int).toNat).drop ((wrap64 (x5_1 * t144)) : Int).toNat))⟩ : S28)]) t144 (wrap64 (x5_1 + 1)) l0_0 l0_1) else (none)) else (none)) else (none)) else (none)) else (none))) else (none)) else (none)) = some r := by first | (rw [hy146]; with_reducible exact H) | (have H2_ := (Option.bind_some _ _).symm.trans H; rw [hy146]; with_reducible exact H2_) | (have H2_ := (Option.bind_some _ _).symm.trans H; with_reducible exact H2_) | with_reducible exact H | (rw [hy146]; exact H) | exact H
      have Ny146 := Aside0.mk hy146
      clear hy146
      by_cases c11 : 1 ≤ (l0_0.length : Int)
      ·
       rw [if_pos c11] at H
       have c11b0 := eq_true c11
       have c11b1 : decide (1 ≤ (l0_0.length : Int)) = true := decide_eq_true c11
       clear c11
       by_cases c12 : y146.length + (l0_0.drop 1).length < 17592186044416
       ·
        rw [if_pos c12] at H
        have LMc12 := Aside0.mk c12
        clear c12
        obtain ⟨y150, hy150⟩ : ∃ y_ : List Int, y_ = (y146 ++ (l0_0.drop 1)) := ⟨_, rfl⟩
        replace H : ((some (([] : List Int) : List Int)).bind fun y153 => (if 0 ≤ (wrap64 (x5_1 * t144)) then (if (wrap64 (x5_1 * t144)) ≤ (wrap64 ((wrap64 (x5_1 * t144)) + t144)) then (if (wrap64 ((wrap64 (x5_1 * t144)) + t144)) ≤ (l0_1.length : Int) then (if y153.length + ((l0_1.take ((wrap64 ((wrap64 (x5_1 * t144)) + t144)) : Int).toNat).drop ((wrap64 (x5_1 * t144)) : Int).toNat).length < 17592186044416 then (if x3_1.length < 2932031007402 then (spec_l3Rows.l0 k1 (x3_1 ++ [(⟨y150, (y153 ++ ((l0_1.take ((wrap64 ((wrap64 (x5_1 * t144)) + t144)) : Int).toNat).drop ((wrap64 (x5_1 * t144)) : Int).toNat))⟩ : S28)]) t144 (wrap64 (x5_1 + 1)) l0_0 l0_1) else (none)) else (none)) else (none)) else (none)) else (none))) = some r := by first | (rw [hy150]; with_reducible exact H) | (have H2_ := (Option.bind_some _ _).symm.trans H; rw [hy150]; with_reducible exact H2_) | (have H2_ := (Option.bind_some _ _).symm.trans H; with_reducible exact H2_) | with_reducible exact H | (rw [hy150]; exact H) | exact H
        have Ny150 := Aside0.mk hy150
        clear hy150
        obtain ⟨y153, hy153⟩ : ∃ y_ : List Int, y_ = (([] : List Int)) := ⟨_, rfl⟩
        replace H : (if 0 ≤ (wrap64 (x5_1 * t144)) then (if (wrap64 (x5_1 * t144)) ≤ (wrap64 ((wrap64 (x5_1 * t144)) + t144)) then (if (wrap64 ((wrap64 (x5_1 * t144)) + t144)) ≤ (l0_1.length : Int) then (if y153.length + ((l0_1.take ((wrap64 ((wrap64 (x5_1 * t144)) + t144)) : Int).toNat).drop ((wrap64 (x5_1 * t144)) : Int).toNat).length < 17592186044416 then (if x3_1.length < 2932031007402 then (spec_l3Rows.l0 k1 (x3_1 ++ [(⟨y150, (y153 ++ ((l0_1.take ((wrap64 ((wrap64 (x5_1 * t144)) + t144)) : Int).toNat).drop ((wrap64 (x5_1 * t144)) : Int).toNat))⟩ : S28)]) t144 (wrap64 (x5_1 + 1)) l0_0 l0_1) else (none)) else (none)) else (none)) else (none)) else (none)) = some r := by first | (rw [hy153]; with_reducible exact H) | (have H2_ := (Option.bind_some _ _).symm.trans H; rw [hy153]; with_reducible exact H2_) | (have H2_ := (Option.bind_some _ _).symm.trans H; with_reducible exact H2_) | with_reducible exact H | (rw [hy153]; exact H) | exact H
        have Ny153 := Aside0.mk hy153
        clear hy153
        obtain ⟨ji13, hji13⟩ : ∃ j_ : Int, (wrap64 (x5_1 * t144)) = j_ := ⟨_, rfl⟩
        replace H : (if 0 ≤ (ji13) then (if (ji13) ≤ (wrap64 ((ji13) + t144)) then (if (wrap64 ((ji13) + t144)) ≤ (l0_1.length : Int) then (if y153.length + ((l0_1.take ((wrap64 ((ji13) + t144)) : Int).toNat).drop ((ji13) : Int).toNat).length < 17592186044416 then (if x3_1.length < 2932031007402 then (spec_l3Rows.l0 k1 (x3_1 ++ [(⟨y150, (y153 ++ ((l0_1.take ((wrap64 ((ji13) + t144)) : Int).toNat).drop ((ji13) : Int).toNat))⟩ : S28)]) t144 (wrap64 (x5_1 + 1)) l0_0 l0_1) else (none)) else (none)) else (none)) else (none)) else (none)) = some r := by first | (rw [hji13] at H; exact H) | (simp only [hji13] at H ⊢; exact H)
        have hji13w : (IntKind.i64.wrap (x5_1 * t144)) = ji13 := (i64_w _).trans hji13
        by_cases c14 : 0 ≤ (ji13)
        ·
         rw [if_pos c14] at H
         have c14b0 := eq_true c14
         have c14b1 : decide (0 ≤ (ji13)) = true := decide_eq_true c14
         clear c14
         by_cases c15 : (ji13) ≤ (wrap64 ((ji13) + t144))
         ·
          rw [if_pos c15] at H
          have c15b0 := eq_true c15
          have c15b1 : decide ((ji13) ≤ (wrap64 ((ji13) + t144))) = true := decide_eq_true c15
          by_cases c16 : (wrap64 ((ji13) + t144)) ≤ (l0_1.length : Int)
          ·
           rw [if_pos c16] at H
           have c16b0 := eq_true c16
           have c16b1 : decide ((wrap64 ((ji13) + t144)) ≤ (l0_1.length : Int)) = true := decide_eq_true c16
           by_cases c17 : y153.length + ((l0_1.take ((wrap64 ((ji13) + t144)) : Int).toNat).drop ((ji13) : Int).toNat).length < 17592186044416
           ·
            rw [if_pos c17] at H
            have LMc17 := Aside0.mk c17
            clear c17
            obtain ⟨y157, hy157⟩ : ∃ y_ : List Int, y_ = (y153 ++ ((l0_1.take ((wrap64 ((ji13) + t144)) : Int).toNat).drop ((ji13) : Int).toNat)) := ⟨_, rfl⟩
            replace H : (if x3_1.length < 2932031007402 then (spec_l3Rows.l0 k1 (x3_1 ++ [(⟨y150, y157⟩ : S28)]) t144 (wrap64 (x5_1 + 1)) l0_0 l0_1) else (none)) = some r := by first | (rw [hy157]; with_reducible exact H) | (have H2_ := (Option.bind_some _ _).symm.trans H; rw [hy157]; with_reducible exact H2_) | (have H2_ := (Option.bind_some _ _).symm.trans H; with_reducible exact H2_) | with_reducible exact H | (rw [hy157]; exact H) | exact H
            have Ny157 := Aside0.mk hy157
            clear hy157
            by_cases c18 : x3_1.length < 2932031007402
            ·
             rw [if_pos c18] at H
             have LMc18 := Aside0.mk c18
             clear c18
             obtain ⟨y160, hy160⟩ : ∃ y_ : List (S28), y_ = (x3_1 ++ [(⟨y150, y157⟩ : S28)]) := ⟨_, rfl⟩
             replace H : (spec_l3Rows.l0 k1 y160 t144 (wrap64 (x5_1 + 1)) l0_0 l0_1) = some r := by first | (rw [hy160]; with_reducible exact H) | (have H2_ := (Option.bind_some _ _).symm.trans H; rw [hy160]; with_reducible exact H2_) | (have H2_ := (Option.bind_some _ _).symm.trans H; with_reducible exact H2_) | with_reducible exact H | (rw [hy160]; exact H) | exact H
             have Ny160 := Aside0.mk hy160
             clear hy160
             have H' := Aside0.mk H
             clear H
             have hcz19_0 : wr.cell? ⟨gb139, 0, none⟩ = some (.slice A0_0 l0_0.length c0_0) := (blk_cell BK139.out 0).trans rfl
             have hcz19_1 : wr.cell? ⟨gb139, 1, none⟩ = some (.slice A0_1 l0_1.length c0_1) := (blk_cell BK139.out 1).trans rfl
             have hfz19_0 := blk_frozen BK139.out 0
             have hfz19_1 := blk_frozen BK139.out 1
             have p145 : 0 ≤ (0 : Int) := (by omega)
             have q145 : 0 < (l0_0.length : Int) := of_decide_eq_true (by first | (with_reducible assumption) | assumption)
             obtain ⟨ad145, e145, hx145_0⟩ := Kd.at_int HR0_0.out 0 p145 q145
             cases e145
             have qi145 : (0 < l0_0.length) = True := eq_true (by omega)
             (try rw [show ((0 : Int)).toNat = 0 from rfl] at hx145_0)
             (try rw [Addr.add_zero'] at hx145_0)
             replace hx145_0 := (HB.out.cell (World.block_lt_of_cell? w _ hx145_0)).trans hx145_0
             replace p145 := eq_true p145
             replace q145 := eq_true q145
             obtain ⟨Ao20, co20, eo20⟩ := Kd.S_slice HO_3.out
             subst eo20
             try go_wp2
             replace HO_3 := Aside0.mk (Kd.S_drew HO_3.out)
             replace BK139 := Aside0.mk (blk_drew BK139.out)
             replace HB := Aside0.mk (below_drew1 HB.out)
             obtain ⟨i022, hi022, _, hsz22, _⟩ := info_parts info3
             (try clear hcut8)
             obtain ⟨A22, hcut22, hA22, hC22⟩ := print_drop_of (P := Try.prog) (Value.int .i64) 0 22 3 .i64 Try.underlying22 hi022 hsz22 (some ad145) c0_0 l0_0 1 (by omega) (of_decide_eq_true (by first | (with_reducible assumption) | assumption)) HC0_0.out
             have HR149 := Aside0.mk (Kd.C_of_reads (h1 := fun _ => rfl) (hA22 _ (Kd.reads_of_C HR0_0.out)))
             have HC149 := Aside0.mk hC22
             clear hA22 hC22 hi022 hsz22
             obtain ⟨i023, hi023, _, hsz23, _⟩ := info_parts info3
             obtain ⟨A23, hcut23, hA23, hC23⟩ := print_mid_of (P := Try.prog) (Value.int .i64) 0 22 3 .i64 .i64 Try.underlying22 hi023 hsz23 A0_1 c0_1 l0_1 (ji13) (wrap64 ((ji13) + t144)) (of_decide_eq_true (by first | (with_reducible assumption) | assumption)) (by first | omega | exact of_decide_eq_true (by first | (with_reducible assumption) | assumption)) (of_decide_eq_true (by first | (with_reducible assumption) | assumption)) HC0_1.out
             have HR156 := Aside0.mk (Kd.C_of_reads (h1 := fun _ => rfl) (hA23 _ (Kd.reads_of_C HR0_1.out)))
             have HC156 := Aside0.mk hC23
             clear hA23 hC23 hi023 hsz23
             refine start_ (n := 23) (S := fun w' => w'.cell? ⟨gb139, 0, none⟩ = some (.slice (some ad145) l0_0.length c0_0) ∧ w'.cell? ⟨gb139, 1, none⟩ = some (.slice A0_1 l0_1.length c0_1)) (ds := []) #[false, false, false, false, false, false, false, false, false, false, false, false, false, false, false, false, false, false, false, false, false, false, false] (by kernel_rfl) rfl rfl ⟨(blk_cell BK139.out 0).trans rfl, (blk_cell BK139.out 1).trans rfl⟩ (fun hHeld => ?_); refine with_tabW spec_l3Rows.tab6 spec_l3Rows.bits6 (fun HT_ HW_ => ?_)
             generalize wr.drew = w21 at HO_3 BK139 HB HR149 HR156 hHeld ⊢
             refine pure_ (i := 0) (N := some 19) (v := ?_) (a' := ?_) #[true, false, false, false, false, false, false, false, false, false, false, false, false, false, false, false, false, false, false, false, false, false, false] rfl rfl (any_of HT_.out (by kernel_rfl)) (fun _ _ _ h => h) (Or.inl ⟨by rfl, ?_⟩) ?_ ?_
             rotate_left
             ·
              intro w'
              go_simp
              with_reducible rfl
             rotate_left
             ·
              simp only [Act.put, List.setIfInBounds_toArray, List.set_cons_zero, List.set_cons_succ, i64_w, i32_w]
              rfl
             refine pure_ (i := 2) (N := some 21) (v := ?_) (a' := ?_) #[true, false, true, false, false, false, false, false, false, false, false, false, false, false, false, false, false, false, false, false, false, false, false] rfl rfl (any_of HT_.out (by kernel_rfl)) (fun _ _ _ h => h) (Or.inl ⟨by rfl, ?_⟩) ?_ ?_
             rotate_left
             ·
              intro w'
              go_simp
              with_reducible rfl
             rotate_left
             ·
              simp only [Act.put, List.setIfInBounds_toArray, List.set_cons_zero, List.set_cons_succ, i64_w, i32_w]
              rfl
             refine pure_ (i := 7) (N := some 26) (v := ?_) (a' := ?_) #[true, false, true, false, false, false, false, true, false, false, false, false, false, false, false, false, false, false, false, false, false, false, false] rfl rfl (any_of HT_.out (by kernel_rfl)) (fun _ _ _ h => h) (Or.inl ⟨by rfl, ?_⟩) ?_ ?_
             rotate_left
             ·
              intro w'
              go_simp
              with_reducible rfl
             rotate_left
             ·
              simp only [Act.put, List.setIfInBounds_toArray, List.set_cons_zero, List.set_cons_succ, i64_w, i32_w]
              rfl
             refine pure_ (i := 9) (N := some 28) (v := ?_) (a' := ?_) #[true, false, true, false, false, false, false, true, false, true, false, false, false, false, false, false, false, false, false, false, false, false, false] rfl rfl (any_of HT_.out (by kernel_rfl)) (fun _ _ _ h => h) (Or.inl ⟨by rfl, ?_⟩) ?_ ?_
             rotate_left
             ·
              intro w'
              go_simp
              with_reducible rfl
             rotate_left
             ·
              simp only [Act.put, List.setIfInBounds_toArray, List.set_cons_zero, List.set_cons_succ, i64_w, i32_w]
              rfl
             refine pure_ (i := 10) (N := some 29) (v := ?_) (a' := ?_) #[true, false, true, false, false, false, false, true, false, true, true, false, false, false, false, false, false, false, false, false, false, false, false] rfl rfl (any_of HT_.out (by kernel_rfl)) (fun _ _ _ h => h) (Or.inl ⟨by rfl, ?_⟩) ?_ ?_
             rotate_left
             ·
              intro w'
              go_simp
              with_reducible rfl
             rotate_left
             ·
              simp only [Act.put, List.setIfInBounds_toArray, List.set_cons_zero, List.set_cons_succ, i64_w, i32_w]
              rfl
             refine pure_ (i := 11) (N := some 30) (v := ?_) (a' := ?_) #[true, false, true, false, false, false, false, true, false, true, true, true, false, false, false, false, false, false, false, false, false, false, false] rfl rfl (any_of HT_.out (by kernel_rfl)) (fun _ _ _ h => h) (Or.inl ⟨by rfl, ?_⟩) ?_ ?_
             rotate_left
             ·
              intro w'
              go_simp
              with_reducible rfl
             rotate_left
             ·
              simp only [Act.put, List.setIfInBounds_toArray, List.set_cons_zero, List.set_cons_succ, i64_w, i32_w]
              rfl
             refine pure_ (i := 12) (N := some 31) (v := ?_) (a' := ?_) #[true, false, true, false, false, false, false, true, false, true, true, true, true, false, false, false, false, false, false, false, false, false, false] rfl rfl (any_of HT_.out (by kernel_rfl)) (fun _ _ _ h => h) (Or.inl ⟨by rfl, ?_⟩) ?_ ?_
             rotate_left
             ·
              intro w'
              go_simp
              with_reducible rfl
             rotate_left
             ·
              simp only [Act.put, List.setIfInBounds_toArray, List.set_cons_zero, List.set_cons_succ, i64_w, i32_w]
              rfl
             refine pure_ (i := 13) (N := some 32) (v := ?_) (a' := ?_) #[true, false, true, false, false, false, false, true, false, true, true, true, true, true, false, false, false, false, false, false, false, false, false] rfl rfl (any_of HT_.out (by kernel_rfl)) (fun _ _ _ h => h) (Or.inl ⟨by rfl, ?_⟩) ?_ ?_
             rotate_left
             ·
              intro w'
              go_simp
              with_reducible rfl
             rotate_left
             ·
              simp only [Act.put, List.setIfInBounds_toArray, List.set_cons_zero, List.set_cons_succ, i64_w, i32_w]
              rfl
             refine pure_ (i := 14) (N := some 33) (v := ?_) (a' := ?_) #[true, false, true, false, false, false, false, true, false, true, true, true, true, true, true, false, false, false, false, false, false, false, false] rfl rfl (any_of HT_.out (by kernel_rfl)) (fun _ _ _ h => h) (Or.inl ⟨by rfl, ?_⟩) ?_ ?_
             rotate_left
             ·
              intro w'
              go_simp
              with_reducible rfl
             rotate_left
             ·
              simp only [Act.put, List.setIfInBounds_toArray, List.set_cons_zero, List.set_cons_succ, i64_w, i32_w]
              rfl
             refine pure_ (i := 15) (N := some 34) (v := ?_) (a' := ?_) #[true, false, true, false, false, false, false, true, false, true, true, true, true, true, true, true, false, false, false, false, false, false, false] rfl rfl (any_of HT_.out (by kernel_rfl)) (fun _ _ _ h => h) (Or.inl ⟨by rfl, ?_⟩) ?_ ?_
             rotate_left
             ·
              intro w'
              go_simp
              with_reducible rfl
             rotate_left
             ·
              simp only [Act.put, List.setIfInBounds_toArray, List.set_cons_zero, List.set_cons_succ, i64_w, i32_w]
              rfl
             refine pure_ (i := 16) (N := some 35) (v := ?_) (a' := ?_) #[true, false, true, false, false, false, false, true, false, true, true, true, true, true, true, true, true, false, false, false, false, false, false] rfl rfl (any_of HT_.out (by kernel_rfl)) (fun _ _ _ h => h) (Or.inl ⟨by rfl, ?_⟩) ?_ ?_
             rotate_left
             ·
              intro w'
              go_simp
              with_reducible rfl
             rotate_left
             ·
              simp only [Act.put, List.setIfInBounds_toArray, List.set_cons_zero, List.set_cons_succ, i64_w, i32_w]
              rfl
             refine take_ (i := 3) (N := some 22) (v := ?_) (a' := ?_) #[true, false, true, true, false, false, false, true, false, true, true, true, true, true, true, true, true, false, false, false, false, false, false] rfl rfl (take_ofW HT_.out HW_.out (by kernel_rfl)) (fun _ _ _ h => h) (Or.inl ⟨by rfl, ?_⟩) hHeld ?_ ?_
             rotate_left
             ·
              rintro w' ⟨s0, s1⟩
              go_simp
              with_reducible rfl
             rotate_left
             ·
              simp only [Act.put, List.setIfInBounds_toArray, List.set_cons_zero, List.set_cons_succ, i64_w, i32_w]
              rfl
             refine pure_ (i := 4) (N := some 23) (v := ?_) (a' := ?_) #[true, false, true, true, true, false, false, true, false, true, true, true, true, true, true, true, true, false, false, false, false, false, false] rfl rfl (any_of HT_.out (by kernel_rfl)) (fun _ _ _ h => h) (Or.inl ⟨by rfl, ?_⟩) ?_ ?_
             rotate_left
             ·
              intro w'
              go_simp
              with_reducible rfl
             rotate_left
             ·
              simp only [Act.put, List.setIfInBounds_toArray, List.set_cons_zero, List.set_cons_succ, i64_w, i32_w]
              rfl
             refine take_ (i := 8) (N := some 27) (v := ?_) (a' := ?_) #[true, false, true, true, true, false, false, true, true, true, true, true, true, true, true, true, true, false, false, false, false, false, false] rfl rfl (take_ofW HT_.out HW_.out (by kernel_rfl)) (fun _ _ _ h => h) (Or.inl ⟨by rfl, ?_⟩) hHeld ?_ ?_
             rotate_left
             ·
              rintro w' ⟨s0, s1⟩
              go_simp
              with_reducible rfl
             rotate_left
             ·
              simp only [Act.put, List.setIfInBounds_toArray, List.set_cons_zero, List.set_cons_succ, i64_w, i32_w]
              rfl
             refine pure_ (i := 17) (N := some 36) (v := ?_) (a' := ?_) #[true, false, true, true, true, false, false, true, true, true, true, true, true, true, true, true, true, true, false, false, false, false, false] rfl rfl (any_of HT_.out (by kernel_rfl)) (fun _ _ _ h => h) (Or.inl ⟨by rfl, ?_⟩) ?_ ?_
             rotate_left
             ·
              intro w'
              go_simp
              with_reducible rfl
             rotate_left
             ·
              simp only [Act.put, List.setIfInBounds_toArray, List.set_cons_zero, List.set_cons_succ, i64_w, i32_w]
              rfl
             refine join_ (σ := Value × Value × Value) 5 #[true, true, true, true, true, true, true, true, true, true, true, true, true, true, true, true, true, true, false, false, false, false, false] (fun s_ => [(20, s_.1), (24, s_.2.1), (25, s_.2.2)]) (fun s_ w' => (w'.cell? ⟨gb139, 0, none⟩ = some (.slice (some ad145) l0_0.length c0_0) ∧ w'.cell? ⟨gb139, 1, none⟩ = some (.slice A0_1 l0_1.length c0_1)) ∧ (Kd.R (Kd.int .i64) 3 w' w.heap.size (fun k_ => some k_ ≠ (s_.2.2 : Value).ownBlock) s_.2.1 y150) ∧ (Kd.R (Kd.int .i64) 3 w' w.heap.size (fun k_ => some k_ ≠ (s_.2.1 : Value).ownBlock) s_.2.2 y153) ∧ (Kd.S k28 28 w' w.heap.size (fun k_ => some k_ ≠ (s_.2.1 : Value).ownBlock ∧ some k_ ≠ (s_.2.2 : Value).ownBlock ∧ k_ ≠ gb139) (.slice Ao20 x3_1.length co20) x3_1) ∧ (w'.heap[gb139]? = some (.cells #[.slice (some ad145) l0_0.length c0_0, .slice A0_1 l0_1.length c0_1] 28 (0, 0))) ∧ (Below w.heap.size w w')) ?_ ?_
             rotate_left
             ·
              intro hCont
              refine two_ (i := 1) (j := 6) (Ni := some 20) (Nj := some 25) #[true, true, true, true, true, false, false, true, true, true, true, true, true, true, true, true, true, true, false, false, false, false, false] #[true, false, true, true, true, false, true, true, true, true, true, true, true, true, true, true, true, true, false, false, false, false, false] rfl rfl rfl rfl (two_of HT_.out (by kernel_rfl)) (by decide) (by decide) (fun K hK => ?_) (fun K hK => ?_)
              ·
               skip
               refine Kd.R_lit_step (Kd.int .i64) _ 3 ?hg (N := 20) ?hd (xs := ([] : List Int)) (inner := []) (ok := fun _ => True) (okp := fun _ => True) ?hr ?hp (fun _ hk => hk) trivial (Below.refl _ _) (Nat.le_refl _) (by simp) ?_; (case hd => rfl); (case hg => rfl); (case hr => first | (go_simp; done) | (go_simp; rfl)); (case hp => exact (Reps.none _ _))
               intro v147 w24 ho25 hb hg_ hnew_
               clear hg_ hnew_
               (first | rw [← Ny146.out] at ho25 | (simp only [Int.reduceToNat] at ho25; rw [← Ny146.out] at ho25))
               replace HO_3 := Aside0.mk (Kd.S_elder' (SU HO_3.out) (Kd.R_base ho25) hb)
               have HO148 := Aside0.mk (Kd.R_lower ho25 (below_size (bS1 HB.out GE139.out)))
               replace BK139 := Aside0.mk (kB BK139.out hb)
               replace HB := Aside0.mk (below_step (bS1 HB.out GE139.out) hb)
               clear hb ho25
               refine hK.out _ _ ⟨(blk_cell BK139.out 0).trans rfl, (blk_cell BK139.out 1).trans rfl⟩ (fun hHeld => ?_)
               clear hK K
               refine norm_ (a' := ?_) ?_ ?_
               rotate_left
               ·
                show Act.put _ (some 20) _ = _
                simp only [Act.put, List.setIfInBounds_toArray, List.set_cons_zero, List.set_cons_succ, i64_w, i32_w]
                rfl
               refine two_ (i := 5) (j := 6) (Ni := some 24) (Nj := some 25) #[true, true, true, true, true, true, false, true, true, true, true, true, true, true, true, true, true, true, false, false, false, false, false] #[true, true, true, true, true, false, true, true, true, true, true, true, true, true, true, true, true, true, false, false, false, false, false] rfl rfl rfl rfl (two_of HT_.out (by kernel_rfl)) (by decide) (by decide) (fun K hK => ?_) (fun K hK => ?_)
               ·
                skip
                refine Kd.R_append_rows_step (Kd.int .i64) (w0 := w) w.heap.size (by rfl) (.tmp 20) (.tmp 23) 22 3 (.int .i64 0) 8 rfl Try.underlying22 info3 rfl (by decide) (by omega) v147 y146 (l0_0.drop 1) _ _ _ (fun _ => True) (fun _ => False) rfl rfl ?aO ?aR (fun _ _ h => h) (fun _ h => h.elim) ?aF ?aB ?aS ?aL ?_
                (case aR => first | (rw [← show (l0_0.drop 1).length = (l0_0.length - 1) from List.length_drop]; exact cU (Kd.C_below HR149.out HB.out)) | (exact cU (Kd.C_below HR149.out HB.out)))
                (case aB => exact (bS1 HB.out GE139.out))
                (case aF => exact (fun _ _ => trivial))
                (case aO => exact (RU HO148.out))
                (case aS => exact (below_size (bS1 HB.out GE139.out)))
                (case aL => have := LMc12.out; have hlx_ := (show (l0_0.drop 1).length = (l0_0.length - 1) from List.length_drop); omega)
                intro v151 w26 ho hb hg hat
                rw [← Ny150.out] at ho
                have n0_ := Aside0.mk (Kd.S_after (ok := (fun k_ => k_ ≠ gb139)) (SU HO_3.out) hg hat)
                have n1_ := Aside0.mk (blk_grown (g := gb139) (o := .cells #[.slice (some ad145) l0_0.length c0_0, .slice A0_1 l0_1.length c0_1] 28 (0, 0)) (kU BK139.out) hg (Kd.R_ne HO148.out BK139.out (by decide)))
                have n2_ := Aside0.mk (hb)
                have n3_ := Aside0.mk (ho)
                clear HO_3 BK139 HB HO148
                have HO_3 := n0_
                have BK139 := n1_
                have HB := n2_
                have HO152 := n3_
                clear n0_ n1_ n2_ n3_
                clear ho hb hg hat
                refine hK.out _ _ ⟨(blk_cell BK139.out 0).trans rfl, (blk_cell BK139.out 1).trans rfl⟩ (fun hHeld => ?_)
                clear hK K
                refine norm_ (a' := ?_) ?_ ?_
                rotate_left
                ·
                 show Act.put _ (some 24) _ = _
                 simp only [Act.put, List.setIfInBounds_toArray, List.set_cons_zero, List.set_cons_succ, i64_w, i32_w]
                 rfl
                refine one_ (i := 6) (N := some 25) #[true, true, true, true, true, true, true, true, true, true, true, true, true, true, true, true, true, true, false, false, false, false, false] rfl rfl (one_of HT_.out (by kernel_rfl)) (by decide) (fun K hK => ?_)
                refine Kd.R_lit_step (Kd.int .i64) _ 3 ?hg (N := 25) ?hd (xs := ([] : List Int)) (inner := []) (ok := fun _ => True) (okp := fun _ => True) ?hr ?hp (fun _ hk => hk) trivial (Below.refl _ _) (Nat.le_refl _) (by simp) ?_; (case hd => rfl); (case hg => rfl); (case hr => first | (go_simp; done) | (go_simp; rfl)); (case hp => exact (Reps.none _ _))
                intro v154 w27 ho28 hb hg_ hnew_
                clear hg_ hnew_
                (first | rw [← Ny153.out] at ho28 | (simp only [Int.reduceToNat] at ho28; rw [← Ny153.out] at ho28))
                replace HO_3 := Aside0.mk (Kd.S_elder' (SU HO_3.out) (Kd.R_base ho28) hb)
                have HO155 := Aside0.mk (Kd.R_lower (Kd.R_new' ho28 (Kd.R_lt (RU HO152.out))) (below_size (bS1 HB.out GE139.out)))
                replace HO152 := Aside0.mk (Kd.R_elder' (RU HO152.out) (Kd.R_base ho28) hb)
                replace BK139 := Aside0.mk (kB BK139.out hb)
                replace HB := Aside0.mk (below_step (bS1 HB.out GE139.out) hb)
                clear hb ho28
                refine hK.out _ _ ⟨(blk_cell BK139.out 0).trans rfl, (blk_cell BK139.out 1).trans rfl⟩ (fun hHeld => ?_)
                clear hK K
                refine norm_ (a' := ?_) ?_ ?_
                rotate_left
                ·
                 show Act.put _ (some 25) _ = _
                 simp only [Act.put, List.setIfInBounds_toArray, List.set_cons_zero, List.set_cons_succ, i64_w, i32_w]
                 rfl
                exact norm_ (by simp only [putAll, Act.put, List.setIfInBounds_toArray, List.set_cons_zero, List.set_cons_succ]) (hCont (v147, v151, v154) _ ⟨hHeld, (by refine RU ?_; exact Kd.R_mono HO152.out (fun _ hk => hk.2)), (by refine RU ?_; exact Kd.R_mono HO155.out (fun _ hk => hk.2)), (by refine SU ?_; exact Kd.S_mono HO_3.out (fun _ hk => ⟨hk.1.2, ⟨hk.2, hk.1.1⟩⟩)), (kU BK139.out), (bS1 HB.out GE139.out)⟩)
               ·
                skip
                refine Kd.R_lit_step (Kd.int .i64) _ 3 ?hg (N := 25) ?hd (xs := ([] : List Int)) (inner := []) (ok := fun _ => True) (okp := fun _ => True) ?hr ?hp (fun _ hk => hk) trivial (Below.refl _ _) (Nat.le_refl _) (by simp) ?_; (case hd => rfl); (case hg => rfl); (case hr => first | (go_simp; done) | (go_simp; rfl)); (case hp => exact (Reps.none _ _))
                intro v154 w26 ho27 hb hg_ hnew_
                clear hg_ hnew_
                (first | rw [← Ny153.out] at ho27 | (simp only [Int.reduceToNat] at ho27; rw [← Ny153.out] at ho27))
                replace HO_3 := Aside0.mk (Kd.S_elder' (SU HO_3.out) (Kd.R_base ho27) hb)
                have HO155 := Aside0.mk (Kd.R_lower (Kd.R_new' ho27 (Kd.R_lt (RU HO148.out))) (below_size (bS1 HB.out GE139.out)))
                replace HO148 := Aside0.mk (Kd.R_elder' (RU HO148.out) (Kd.R_base ho27) hb)
                replace BK139 := Aside0.mk (kB BK139.out hb)
                replace HB := Aside0.mk (below_step (bS1 HB.out GE139.out) hb)
                clear hb ho27
                refine hK.out _ _ ⟨(blk_cell BK139.out 0).trans rfl, (blk_cell BK139.out 1).trans rfl⟩ (fun hHeld => ?_)
                clear hK K
                refine norm_ (a' := ?_) ?_ ?_
                rotate_left
                ·
                 show Act.put _ (some 25) _ = _
                 simp only [Act.put, List.setIfInBounds_toArray, List.set_cons_zero, List.set_cons_succ, i64_w, i32_w]
                 rfl
                refine one_ (i := 5) (N := some 24) #[true, true, true, true, true, true, true, true, true, true, true, true, true, true, true, true, true, true, false, false, false, false, false] rfl rfl (one_of HT_.out (by kernel_rfl)) (by decide) (fun K hK => ?_)
                refine Kd.R_append_rows_step (Kd.int .i64) (w0 := w) w.heap.size (by rfl) (.tmp 20) (.tmp 23) 22 3 (.int .i64 0) 8 rfl Try.underlying22 info3 rfl (by decide) (by omega) v147 y146 (l0_0.drop 1) _ _ _ (fun k_ => some k_ ≠ (v154 : Value).ownBlock) (fun _ => False) rfl rfl ?aO ?aR (fun _ _ h => h) (fun _ h => h.elim) ?aF ?aB ?aS ?aL ?_
                (case aR => first | (rw [← show (l0_0.drop 1).length = (l0_0.length - 1) from List.length_drop]; exact cU (Kd.C_below HR149.out HB.out)) | (exact cU (Kd.C_below HR149.out HB.out)))
                (case aB => exact (bS1 HB.out GE139.out))
                (case aF => exact (fun k_ hk => Kd.fresh' (Kd.R_lt (RU HO155.out)) k_ hk))
                (case aO => exact (by refine RU ?_; exact Kd.R_mono HO148.out (fun _ hk => hk.2)))
                (case aS => exact (below_size (bS1 HB.out GE139.out)))
                (case aL => have := LMc12.out; have hlx_ := (show (l0_0.drop 1).length = (l0_0.length - 1) from List.length_drop); omega)
                intro v151 w28 ho hb hg hat
                rw [← Ny150.out] at ho
                have n0_ := Aside0.mk (Kd.S_after (ok := (fun k_ => some k_ ≠ (v154 : Value).ownBlock ∧ k_ ≠ gb139)) (by refine SU ?_; exact Kd.S_mono HO_3.out (fun _ hk => ⟨⟨hk.2, hk.1.1⟩, hk.1.2⟩)) hg hat)
                have n1_ := Aside0.mk (blk_grown (g := gb139) (o := .cells #[.slice (some ad145) l0_0.length c0_0, .slice A0_1 l0_1.length c0_1] 28 (0, 0)) (kU BK139.out) hg (Kd.R_ne HO148.out BK139.out (by decide)))
                have n2_ := Aside0.mk (Kd.R_after (ok := (fun _ => True)) (RU HO155.out) hg hat)
                have n3_ := Aside0.mk (hb)
                have n4_ := Aside0.mk (ho)
                clear HO_3 BK139 HO155 HB HO148
                have HO_3 := n0_
                have BK139 := n1_
                have HO155 := n2_
                have HB := n3_
                have HO152 := n4_
                clear n0_ n1_ n2_ n3_ n4_
                clear ho hb hg hat
                refine hK.out _ _ ⟨(blk_cell BK139.out 0).trans rfl, (blk_cell BK139.out 1).trans rfl⟩ (fun hHeld => ?_)
                clear hK K
                refine norm_ (a' := ?_) ?_ ?_
                rotate_left
                ·
                 show Act.put _ (some 24) _ = _
                 simp only [Act.put, List.setIfInBounds_toArray, List.set_cons_zero, List.set_cons_succ, i64_w, i32_w]
                 rfl
                exact norm_ (by simp only [putAll, Act.put, List.setIfInBounds_toArray, List.set_cons_zero, List.set_cons_succ]) (hCont (v147, v151, v154) _ ⟨hHeld, (RU HO152.out), (by refine RU ?_; exact Kd.R_mono HO155.out (fun _ hk => hk.2)), (by refine SU ?_; exact Kd.S_mono HO_3.out (fun _ hk => ⟨hk.2, ⟨hk.1.1, hk.1.2⟩⟩)), (kU BK139.out), (bS1 HB.out GE139.out)⟩)
              ·
               skip
               refine Kd.R_lit_step (Kd.int .i64) _ 3 ?hg (N := 25) ?hd (xs := ([] : List Int)) (inner := []) (ok := fun _ => True) (okp := fun _ => True) ?hr ?hp (fun _ hk => hk) trivial (Below.refl _ _) (Nat.le_refl _) (by simp) ?_; (case hd => rfl); (case hg => rfl); (case hr => first | (go_simp; done) | (go_simp; rfl)); (case hp => exact (Reps.none _ _))
               intro v154 w24 ho25 hb hg_ hnew_
               clear hg_ hnew_
               (first | rw [← Ny153.out] at ho25 | (simp only [Int.reduceToNat] at ho25; rw [← Ny153.out] at ho25))
               replace HO_3 := Aside0.mk (Kd.S_elder' (SU HO_3.out) (Kd.R_base ho25) hb)
               have HO155 := Aside0.mk (Kd.R_lower ho25 (below_size (bS1 HB.out GE139.out)))
               replace BK139 := Aside0.mk (kB BK139.out hb)
               replace HB := Aside0.mk (below_step (bS1 HB.out GE139.out) hb)
               clear hb ho25
               refine hK.out _ _ ⟨(blk_cell BK139.out 0).trans rfl, (blk_cell BK139.out 1).trans rfl⟩ (fun hHeld => ?_)
               clear hK K
               refine norm_ (a' := ?_) ?_ ?_
               rotate_left
               ·
                show Act.put _ (some 25) _ = _
                simp only [Act.put, List.setIfInBounds_toArray, List.set_cons_zero, List.set_cons_succ, i64_w, i32_w]
                rfl
               refine one_ (i := 1) (N := some 20) #[true, true, true, true, true, false, true, true, true, true, true, true, true, true, true, true, true, true, false, false, false, false, false] rfl rfl (one_of HT_.out (by kernel_rfl)) (by decide) (fun K hK => ?_)
               refine Kd.R_lit_step (Kd.int .i64) _ 3 ?hg (N := 20) ?hd (xs := ([] : List Int)) (inner := []) (ok := fun _ => True) (okp := fun _ => True) ?hr ?hp (fun _ hk => hk) trivial (Below.refl _ _) (Nat.le_refl _) (by simp) ?_; (case hd => rfl); (case hg => rfl); (case hr => first | (go_simp; done) | (go_simp; rfl)); (case hp => exact (Reps.none _ _))
               intro v147 w26 ho27 hb hg_ hnew_
               clear hg_ hnew_
               (first | rw [← Ny146.out] at ho27 | (simp only [Int.reduceToNat] at ho27; rw [← Ny146.out] at ho27))
               replace HO_3 := Aside0.mk (Kd.S_elder' (SU HO_3.out) (Kd.R_base ho27) hb)
               have HO148 := Aside0.mk (Kd.R_lower (Kd.R_new' ho27 (Kd.R_lt (RU HO155.out))) (below_size (bS1 HB.out GE139.out)))
               replace HO155 := Aside0.mk (Kd.R_elder' (RU HO155.out) (Kd.R_base ho27) hb)
               replace BK139 := Aside0.mk (kB BK139.out hb)
               replace HB := Aside0.mk (below_step (bS1 HB.out GE139.out) hb)
               clear hb ho27
               refine hK.out _ _ ⟨(blk_cell BK139.out 0).trans rfl, (blk_cell BK139.out 1).trans rfl⟩ (fun hHeld => ?_)
               clear hK K
               refine norm_ (a' := ?_) ?_ ?_
               rotate_left
               ·
                show Act.put _ (some 20) _ = _
                simp only [Act.put, List.setIfInBounds_toArray, List.set_cons_zero, List.set_cons_succ, i64_w, i32_w]
                rfl
               refine one_ (i := 5) (N := some 24) #[true, true, true, true, true, true, true, true, true, true, true, true, true, true, true, true, true, true, false, false, false, false, false] rfl rfl (one_of HT_.out (by kernel_rfl)) (by decide) (fun K hK => ?_)
               refine Kd.R_append_rows_step (Kd.int .i64) (w0 := w) w.heap.size (by rfl) (.tmp 20) (.tmp 23) 22 3 (.int .i64 0) 8 rfl Try.underlying22 info3 rfl (by decide) (by omega) v147 y146 (l0_0.drop 1) _ _ _ (fun k_ => some k_ ≠ (v154 : Value).ownBlock) (fun _ => False) rfl rfl ?aO ?aR (fun _ _ h => h) (fun _ h => h.elim) ?aF ?aB ?aS ?aL ?_
               (case aR => first | (rw [← show (l0_0.drop 1).length = (l0_0.length - 1) from List.length_drop]; exact cU (Kd.C_below HR149.out HB.out)) | (exact cU (Kd.C_below HR149.out HB.out)))
               (case aB => exact (bS1 HB.out GE139.out))
               (case aF => exact (fun k_ hk => Kd.fresh' (Kd.R_lt (RU HO155.out)) k_ hk))
               (case aO => exact (by refine RU ?_; exact Kd.R_mono HO148.out (fun _ hk => hk.2)))
               (case aS => exact (below_size (bS1 HB.out GE139.out)))
               (case aL => have := LMc12.out; have hlx_ := (show (l0_0.drop 1).length = (l0_0.length - 1) from List.length_drop); omega)
               intro v151 w28 ho hb hg hat
               rw [← Ny150.out] at ho
               have n0_ := Aside0.mk (Kd.S_after (ok := (fun k_ => some k_ ≠ (v154 : Value).ownBlock ∧ k_ ≠ gb139)) (by refine SU ?_; exact Kd.S_mono HO_3.out (fun _ hk => ⟨⟨hk.1.2, hk.1.1⟩, hk.2⟩)) hg hat)
               have n1_ := Aside0.mk (blk_grown (g := gb139) (o := .cells #[.slice (some ad145) l0_0.length c0_0, .slice A0_1 l0_1.length c0_1] 28 (0, 0)) (kU BK139.out) hg (Kd.R_ne HO148.out BK139.out (by decide)))
               have n2_ := Aside0.mk (Kd.R_after (ok := (fun _ => True)) (RU HO155.out) hg hat)
               have n3_ := Aside0.mk (hb)
               have n4_ := Aside0.mk (ho)
               clear HO_3 BK139 HO155 HB HO148
               have HO_3 := n0_
               have BK139 := n1_
               have HO155 := n2_
               have HB := n3_
               have HO152 := n4_
               clear n0_ n1_ n2_ n3_ n4_
               clear ho hb hg hat
               refine hK.out _ _ ⟨(blk_cell BK139.out 0).trans rfl, (blk_cell BK139.out 1).trans rfl⟩ (fun hHeld => ?_)
               clear hK K
               refine norm_ (a' := ?_) ?_ ?_
               rotate_left
               ·
                show Act.put _ (some 24) _ = _
                simp only [Act.put, List.setIfInBounds_toArray, List.set_cons_zero, List.set_cons_succ, i64_w, i32_w]
                rfl
               exact norm_ (by simp only [putAll, Act.put, List.setIfInBounds_toArray, List.set_cons_zero, List.set_cons_succ]) (hCont (v147, v151, v154) _ ⟨hHeld, (RU HO152.out), (by refine RU ?_; exact Kd.R_mono HO155.out (fun _ hk => hk.2)), (by refine SU ?_; exact Kd.S_mono HO_3.out (fun _ hk => ⟨hk.2, ⟨hk.1.1, hk.1.2⟩⟩)), (kU BK139.out), (bS1 HB.out GE139.out)⟩)
             rintro ⟨v147, v151, v154⟩ w29 ⟨hS_, h0_, h1_, h2_, h3_, h4_⟩
             have n0_ : Aside0 (Kd.R (Kd.int .i64) 3 w29 w.heap.size (fun k_ => some k_ ≠ (v154 : Value).ownBlock) v151 y150) := ⟨h0_⟩
             have n1_ : Aside0 (Kd.R (Kd.int .i64) 3 w29 w.heap.size (fun k_ => some k_ ≠ (v151 : Value).ownBlock) v154 y153) := ⟨h1_⟩
             have n2_ : Aside0 (Kd.S k28 28 w29 w.heap.size (fun k_ => some k_ ≠ (v151 : Value).ownBlock ∧ some k_ ≠ (v154 : Value).ownBlock ∧ k_ ≠ gb139) (.slice Ao20 x3_1.length co20) x3_1) := ⟨h2_⟩
             have n3_ : Aside0 (w29.heap[gb139]? = some (.cells #[.slice (some ad145) l0_0.length c0_0, .slice A0_1 l0_1.length c0_1] 28 (0, 0))) := ⟨h3_⟩
             have n4_ : Aside0 (Below w.heap.size w w29) := ⟨h4_⟩
             clear HO_3 BK139 HB
             clear h0_ h1_ h2_ h3_ h4_
             have HO152 := n0_
             have HO155 := n1_
             have HO_3 := n2_
             have BK139 := n3_
             have HB := n4_
             clear n0_ n1_ n2_ n3_ n4_
             have hHeld : w29.cell? ⟨gb139, 0, none⟩ = some (.slice (some ad145) l0_0.length c0_0) ∧ w29.cell? ⟨gb139, 1, none⟩ = some (.slice A0_1 l0_1.length c0_1) := hS_
             refine norm_ (a' := ?_) ?_ ?_
             rotate_left
             ·
              simp only [putAll, Act.put, List.setIfInBounds_toArray, List.set_cons_zero, List.set_cons_succ]
              rfl
             refine one_ (i := 18) (N := some 37) #[true, true, true, true, true, true, true, true, true, true, true, true, true, true, true, true, true, true, true, false, false, false, false] rfl rfl (one_of HT_.out (by kernel_rfl)) (by decide) (fun K hK => ?_)
             refine Kd.R_append_rows_step (Kd.int .i64) (w0 := w) w.heap.size (by rfl) (.tmp 25) (.tmp 36) 22 3 (.int .i64 0) 8 rfl Try.underlying22 info3 rfl (by decide) (by omega) v154 y153 ((l0_1.take ((wrap64 ((ji13) + t144)) : Int).toNat).drop ((ji13) : Int).toNat) _ _ _ (fun k_ => some k_ ≠ (v151 : Value).ownBlock) (fun _ => False) rfl rfl ?aO ?aR (fun _ _ h => h) (fun _ h => h.elim) ?aF ?aB ?aS ?aL ?_
             (case aR => first | (rw [← show ((l0_1.take ((wrap64 ((ji13) + t144)) : Int).toNat).drop ((ji13) : Int).toNat).length = ((wrap64 ((ji13) + t144)).toNat - (ji13).toNat) from (by rw [List.length_drop, List.length_take]; have h_ : ((wrap64 ((ji13) + t144)) : Int) ≤ (l0_1.length : Int) := of_decide_eq_true (by first | (with_reducible assumption) | assumption); omega)]; exact cU (Kd.C_below HR156.out HB.out)) | (exact cU (Kd.C_below HR156.out HB.out)))
             (case aB => exact (bS1 HB.out GE139.out))
             (case aF => exact (fun k_ hk => Kd.fresh' (Kd.R_lt (RU HO152.out)) k_ hk))
             (case aO => exact (RU HO155.out))
             (case aS => exact (below_size (bS1 HB.out GE139.out)))
             (case aL => have := LMc17.out; have hlx_ := (show ((l0_1.take ((wrap64 ((ji13) + t144)) : Int).toNat).drop ((ji13) : Int).toNat).length = ((wrap64 ((ji13) + t144)).toNat - (ji13).toNat) from (by rw [List.length_drop, List.length_take]; have h_ : ((wrap64 ((ji13) + t144)) : Int) ≤ (l0_1.length : Int) := of_decide_eq_true (by first | (with_reducible assumption) | assumption); omega)); omega)
             intro v158 w30 ho hb hg hat
             rw [← Ny157.out] at ho
             have n0_ := Aside0.mk (Kd.S_after (ok := (fun k_ => some k_ ≠ (v151 : Value).ownBlock ∧ k_ ≠ gb139)) (by refine SU ?_; exact Kd.S_mono HO_3.out (fun _ hk => ⟨⟨hk.1, hk.2.2⟩, hk.2.1⟩)) hg hat)
             have n1_ := Aside0.mk (blk_grown (g := gb139) (o := .cells #[.slice (some ad145) l0_0.length c0_0, .slice A0_1 l0_1.length c0_1] 28 (0, 0)) (kU BK139.out) hg (Kd.R_ne HO155.out BK139.out (by decide)))
             have n2_ := Aside0.mk (Kd.R_after (ok := (fun _ => True)) (by refine RU ?_; exact Kd.R_mono HO152.out (fun _ hk => ⟨trivial, hk⟩)) hg hat)
             have n3_ := Aside0.mk (hb)
             have n4_ := Aside0.mk (ho)
             clear HO_3 BK139 HO152 HB HO155
             have HO_3 := n0_
             have BK139 := n1_
             have HO152 := n2_
             have HB := n3_
             have HO159 := n4_
             clear n0_ n1_ n2_ n3_ n4_
             clear ho hb hg hat
             obtain ⟨Ao31, co31, eo31⟩ := Kd.R_slice HO159.out
             (first | subst eo31 | (injection eo31 with f1_ f2_ f3_; have f4_ := f1_.symm; have f5_ := f3_.symm; clear f1_ f2_ f3_; subst f4_; subst f5_))
             obtain ⟨Ao32, co32, eo32⟩ := Kd.R_slice HO152.out
             (first | subst eo32 | (injection eo32 with f1_ f2_ f3_; have f4_ := f1_.symm; have f5_ := f3_.symm; clear f1_ f2_ f3_; subst f4_; subst f5_))
             refine hK.out _ _ ⟨(blk_cell BK139.out 0).trans rfl, (blk_cell BK139.out 1).trans rfl⟩ (fun hHeld => ?_)
             clear hK K
             refine norm_ (a' := ?_) ?_ ?_
             rotate_left
             ·
              show Act.put _ (some 37) _ = _
              simp only [Act.put, List.setIfInBounds_toArray, List.set_cons_zero, List.set_cons_succ, i64_w, i32_w]
              rfl
             refine pure_ (i := 19) (N := some 38) (v := ?_) (a' := ?_) #[true, true, true, true, true, true, true, true, true, true, true, true, true, true, true, true, true, true, true, true, false, false, false] rfl rfl (any_of HT_.out (by kernel_rfl)) (fun _ _ _ h => h) (Or.inl ⟨by rfl, ?_⟩) ?_ ?_
             rotate_left
             ·
              intro w'
              go_simp
              with_reducible rfl
             rotate_left
             ·
              simp only [Act.put, List.setIfInBounds_toArray, List.set_cons_zero, List.set_cons_succ, i64_w, i32_w]
              rfl
             refine one_ (i := 20) (N := some 39) #[true, true, true, true, true, true, true, true, true, true, true, true, true, true, true, true, true, true, true, true, true, false, false] rfl rfl (one_of HT_.out (by kernel_rfl)) (by decide) (fun K hK => ?_)
             refine value_ (w1 := ?_) (v := ?_) (by rfl) rfl ?_ ?_
             rotate_left 2
             ·
              go_simp
              constructor
              ·
               rfl
              ·
               rfl
             refine hK.out _ _ ⟨(blk_cell (blk_alloc BK139.out _) 0).trans rfl, (blk_cell (blk_alloc BK139.out _) 1).trans rfl⟩ (fun hHeld => ?_)
             clear hK K
             refine norm_ (a' := ?_) ?_ ?_
             rotate_left
             ·
              show Act.put _ (some 39) _ = _
              simp only [Act.put, List.setIfInBounds_toArray, List.set_cons_zero, List.set_cons_succ, i64_w, i32_w]
              rfl
             refine one_ (i := 21) (N := some 40) #[true, true, true, true, true, true, true, true, true, true, true, true, true, true, true, true, true, true, true, true, true, true, false] rfl rfl (one_of HT_.out (by kernel_rfl)) (by decide) (fun K hK => ?_)
             refine Kd.S_append_step k28 (w0 := w) w.heap.size (by rfl) (.tmp 19) (.tmp 39) 26 28 (.agg #[(.slice none 0 0), (.slice none 0 0)]) 48 rfl Try.underlying26 info28 rfl (by decide) (by omega) (.slice Ao20 x3_1.length co20) x3_1 (⟨y150, y157⟩ : S28) [.slice Ao32 y150.length co32, .slice Ao31 y157.length co31] (fun k_ => k_ ≠ gb139) (fun k_ => some k_ = (.slice Ao32 y150.length co32 : Value).ownBlock ∨ some k_ = (.slice Ao31 y157.length co31 : Value).ownBlock) rfl rfl ?aP (fun k_ hk_ => hk_.elim (fun h_ => ((Kd.R_mono (ok' := fun k_ => ((fun k_ => k_ ≠ gb139)) k_ ∧ some k_ ≠ (.slice Ao20 x3_1.length co20 : Value).ownBlock) (Kd.R_types (Kd.R_apart' (HO152.out) (Kd.S_typed HO_3.out) (by decide)) BK139.out (by decide)) (fun k_ hk => ⟨hk.2, hk.1.2⟩))).1 k_ h_.symm) (fun h_ => ((Kd.R_mono (ok' := fun k_ => ((fun k_ => k_ ≠ gb139)) k_ ∧ some k_ ≠ (.slice Ao20 x3_1.length co20 : Value).ownBlock) (Kd.R_types (Kd.R_apart' (HO159.out) (Kd.S_typed HO_3.out) (by decide)) BK139.out (by decide)) (fun k_ hk => ⟨hk.2, hk.1.2⟩))).1 k_ h_.symm)) ?aF ?aO ?aB ?aS ?aL ?_
             (case aP => exact k28_mkM _ _ _ (⟨y150, y157⟩ : S28) (Kd.R_mono (Kd.R_tight rfl (Kd.R_mono (ok' := fun k_ => ((fun k_ => k_ ≠ gb139)) k_ ∧ some k_ ≠ (.slice Ao20 x3_1.length co20 : Value).ownBlock) (Kd.R_types (Kd.R_apart' (HO152.out) (Kd.S_typed HO_3.out) (by decide)) BK139.out (by decide)) (fun k_ hk => ⟨hk.2, hk.1.2⟩))) (fun _ h_ => Or.inl h_)) (Kd.R_mono (Kd.R_tight rfl (Kd.R_mono (ok' := fun k_ => ((fun k_ => k_ ≠ gb139)) k_ ∧ some k_ ≠ (.slice Ao20 x3_1.length co20 : Value).ownBlock) (Kd.R_types (Kd.R_apart' (HO159.out) (Kd.S_typed HO_3.out) (by decide)) BK139.out (by decide)) (fun k_ hk => ⟨hk.2, hk.1.2⟩))) (fun _ h_ => Or.inr (h_))))
             (case aB => exact (bS1 HB.out GE139.out))
             (case aF => exact (fun k_ hk => Kd.freshB (g := gb139) (o := .cells #[.slice (some ad145) l0_0.length c0_0, .slice A0_1 l0_1.length c0_1] 28 (0, 0)) (kU BK139.out) k_ hk))
             (case aO => exact (by refine SU ?_; exact Kd.S_mono HO_3.out (fun k_ hk => ⟨hk.1.2, fun e_ => e_.elim (fun h_ => hk.1.1 h_) (fun h_ => hk.2 h_)⟩)))
             (case aS => exact (below_size (bS1 HB.out GE139.out)))
             (case aL => have := LMc18.out; omega)
             intro v161 w33 ho hb hg hat
             rw [← Ny160.out] at ho
             have n0_ := Aside0.mk (blk_grown (g := gb139) (o := .cells #[.slice (some ad145) l0_0.length c0_0, .slice A0_1 l0_1.length c0_1] 28 (0, 0)) (kU BK139.out) hg (Kd.S_away HO_3.out (fun _ hk => hk.1.2)))
             have n1_ := Aside0.mk (hb)
             have n2_ := Aside0.mk (ho)
             clear BK139 HB HO_3 HO152 HO159
             have BK139 := n0_
             have HB := n1_
             have HO162 := n2_
             clear n0_ n1_ n2_
             clear ho hb hg hat
             refine hK.out _ _ ⟨(blk_cell BK139.out 0).trans rfl, (blk_cell BK139.out 1).trans rfl⟩ (fun hHeld => ?_)
             clear hK K
             refine norm_ (a' := ?_) ?_ ?_
             rotate_left
             ·
              show Act.put _ (some 40) _ = _
              simp only [Act.put, List.setIfInBounds_toArray, List.set_cons_zero, List.set_cons_succ, i64_w, i32_w]
              rfl
             refine pure_ (i := 22) (N := some 3) (v := ?_) (a' := ?_) #[true, true, true, true, true, true, true, true, true, true, true, true, true, true, true, true, true, true, true, true, true, true, true] rfl rfl (any_of HT_.out (by kernel_rfl)) (fun _ _ _ h => h) (Or.inl ⟨by rfl, ?_⟩) ?_ ?_
             rotate_left
             ·
              intro w'
              go_simp
              with_reducible rfl
             rotate_left
             ·
              simp only [Act.put, List.setIfInBounds_toArray, List.set_cons_zero, List.set_cons_succ, i64_w, i32_w]
              rfl
             refine done_ (done_of HT_.out (by kernel_rfl)) ?_
             try go_wp2
             go_roundg k1
             case measure => have := HK1.out; omega
             case rel => exact ⟨(y160), (wrap64 (x5_1 + 1)), (by first | rfl | (simp; done) | (simp [*]; done)), H', ⟨by have := HK1.out; omega⟩, ⟨by refine SU ?_; exact HO162.out⟩, ⟨by refine kU ?_; exact BK139.out⟩, ⟨by exact bS1 HB.out GE139.out⟩⟩
            ·
             rw [if_neg c18] at H
             exact absurd H (by simp)
           ·
            rw [if_neg c17] at H
            exact absurd H (by simp)
          ·
           rw [if_neg c16] at H
           exact absurd H (by simp)
         ·
          rw [if_neg c15] at H
          exact absurd H (by simp)
        ·
         rw [if_neg c14] at H
         exact absurd H (by simp)
       ·
        rw [if_neg c12] at H
        exact absurd H (by simp)
      ·
       rw [if_neg c11] at H
       exact absurd H (by simp)
     ·
      rw [if_neg c10] at H
      have c10b0 : decide (x5_1 < (rd l0_0 0)) = false := decide_eq_false c10
      clear c10
      obtain rfl := Option.some.inj H
      have hcz34_0 : wr.cell? ⟨gb139, 0, none⟩ = some (.slice A0_0 l0_0.length c0_0) := (blk_cell BK139.out 0).trans rfl
      have hcz34_1 : wr.cell? ⟨gb139, 1, none⟩ = some (.slice A0_1 l0_1.length c0_1) := (blk_cell BK139.out 1).trans rfl
      have hfz34_0 := blk_frozen BK139.out 0
      have hfz34_1 := blk_frozen BK139.out 1
      have p145 : 0 ≤ (0 : Int) := (by omega)
      have q145 : 0 < (l0_0.length : Int) := of_decide_eq_true (by first | (with_reducible assumption) | assumption)
      obtain ⟨ad145, e145, hx145_0⟩ := Kd.at_int HR0_0.out 0 p145 q145
      cases e145
      have qi145 : (0 < l0_0.length) = True := eq_true (by omega)
      (try rw [show ((0 : Int)).toNat = 0 from rfl] at hx145_0)
      (try rw [Addr.add_zero'] at hx145_0)
      replace hx145_0 := (HB.out.cell (World.block_lt_of_cell? w _ hx145_0)).trans hx145_0
      replace p145 := eq_true p145
      replace q145 := eq_true q145
      go_wp2
      go_ret
      exact ⟨_, by first | rfl | (simp [errW_none, errW_some] <;> rfl) | (simp [*, errW_none, errW_some] <;> rfl), by refine SU ?_; exact Kd.S_mono HO_3.out (fun _ hk => trivial), by exact bS1 HB.out GE139.out⟩
    ·
     rw [if_neg c9] at H
     exact absurd H (by simp)
 ·
  rw [if_neg c2] at H
  exact absurd H (by simp)

/-! ### spec_ShapeOk: function 28 -/
def spec_ShapeOk.f (k : Nat) (l0 : List Int) : Option (Bool) := (spec_SizeOf.f k l0).bind fun t163 => (some (decide (t163 ≥ 0)))
set_option maxHeartbeats 8000000 in
set_option maxRecDepth 100000 in
theorem spec_ShapeOk.calls (k : Nat) (A0 : Option Addr) (c0 : Nat) (l0 : List Int) (r : Bool) (w : World) (hr0 : Kd.C (Kd.int .i64) w A0 l0.length l0) (hc0 : l0.length ≤ c0) (h : spec_ShapeOk.f k l0 = some r) :
  Calls Try.prog 28 #[.slice A0 l0.length c0] w fun e w' => e = .returned (.bool r) ∧ Drawn0 w w' := by
 have HR0 := Aside0.mk hr0
 have HC0 := Aside0.mk hc0
 clear hr0 hc0
 have H : ((spec_SizeOf.f k l0).bind fun t163 => (some (decide (t163 ≥ 0)))) = some r := h
 clear h
 replace H := Option.bind_eq_some_iff.mp H
 obtain ⟨t163, A20, H⟩ := H
 replace H : (some (decide (t163 ≥ 0))) = some r := H
 have A2 := Aside0.mk A20
 clear A20
 obtain rfl := Option.some.inj H
 go_enter Try.func28, Try.ntmps28
 go_wp2_with (first | ((with_reducible refine gate_callee (f := 31) rfl ?_); refine goesL_ (some 4) rfl rfl Try.func31 (by kernel_rfl) rfl #[.slice A0 l0.length c0] rfl lU ?_; (with_reducible refine (spec_SizeOf.calls k _ _ l0 t163 _ ?side1 ?side2 A2.out).mono ?_); (case side1 => exact cU HR0.out); (case side2 => exact HC0.out); rintro e w' ⟨rfl, ⟨nd, rfl⟩⟩; refine ⟨_, rfl, ?_⟩))
 go_ret
 exact ⟨rU, dU⟩

end Go.Proofs.Ytnpcjppcoejgmaa.PFnExactPick
