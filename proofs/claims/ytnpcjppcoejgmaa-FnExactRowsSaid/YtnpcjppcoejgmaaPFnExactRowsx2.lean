/- The walk of what a law reaches, for the law's row: written by a program of this session; it has no condition of its own. -/
import Derived.Test.YtnpcjppcoejgmaaPFnExactRowsx0
import Derived.Test.YtnpcjppcoejgmaaQ
import Derived.Test.YtnpcjppcoejgmaaPFnExactRowsx1
namespace Go.Proofs.Ytnpcjppcoejgmaa.PFnExactRows
open Go.RowKit Go.Proofs.YtnpcjppcoejgmaaW.PrintWords Go.Proofs.YtnpcjppcoejgmaaW.PrintLast Go.Proofs.YtnpcjppcoejgmaaW.PrintMore Go.Proofs.YtnpcjppcoejgmaaQ
attribute [local go_sem] max2_int min2_int max_two min_two max_three min_three max_four min_four   -- for this text's walks alone
set_option linter.unusedVariables false
set_option linter.unusedSimpArgs false

/-! ### spec_l3Rows: function 19 -/
def spec_l3Rows.l0 : Nat → List (S28) → Int → Int → List Int → List Int → Option ((List (S28)))
 | 0, _, _, _, _, _ => none
 | k + 1, x3, x4, x5, x114000, x114001 => if 0 < (x114000.length : Int) then (if x5 < (rd x114000 0) then ((some (([] : List Int) : List Int)).bind fun y120 => (if 1 ≤ (x114000.length : Int) then (if y120.length + (x114000.drop 1).length < 17592186044416 then ((some (([] : List Int) : List Int)).bind fun y127 => (if 0 ≤ (wrap64 (x5 * x4)) then (if (wrap64 (x5 * x4)) ≤ (wrap64 ((wrap64 (x5 * x4)) + x4)) then (if (wrap64 ((wrap64 (x5 * x4)) + x4)) ≤ (x114001.length : Int) then (if y127.length + ((x114001.take ((wrap64 ((wrap64 (x5 * x4)) + x4)) : Int).toNat).drop ((wrap64 (x5 * x4)) : Int).toNat).length < 17592186044416 then (if x3.length < 2932031007402 then (spec_l3Rows.l0 k (x3 ++ [(⟨(y120 ++ (x114000.drop 1)), (y127 ++ ((x114001.take ((wrap64 ((wrap64 (x5 * x4)) + x4)) : Int).toNat).drop ((wrap64 (x5 * x4)) : Int).toNat))⟩ : S28)]) x4 (wrap64 (x5 + 1)) x114000 x114001) else (none)) else (none)) else (none)) else (none)) else (none))) else (none)) else (none))) else (some x3)) else (none)
def spec_l3Rows.f (k : Nat) (l0_0 : List Int) (l0_1 : List Int) : Option ((List (S28))) := if 1 ≤ (l0_0.length : Int) then ((spec_SizeOf.f k (l0_0.drop 1)).bind fun t118 => (spec_l3Rows.l0 k (([] : List (S28))) t118 0 l0_0 l0_1)) else (none)
def spec_l3Rows.T6 : Bool × List (List Nat × List Nat) := (true, [([], []), ([], []), ([], []), ([2], [2]), ([3], [3]), ([1, 4], [1, 4]), ([], []), ([], []), ([7], [7]), ([], []), ([], []), ([9, 10], [9, 10]), ([], []), ([], []), ([12, 13], [12, 13]), ([], []), ([14, 15], [14, 15]), ([8, 11, 16], [8, 11, 16]), ([6, 17, 5], [6, 17]), ([5, 18], [5, 18]), ([19], [19]), ([0, 20, 18], [0, 20]), ([21, 21, 0, 1, 2, 3, 4, 5, 6, 7, 8, 9, 10, 11, 12, 13, 14, 15, 16, 17, 18, 19, 20, 21], [0, 21])])
def spec_l3Rows.B6 : List Nat := [0, 0, 0, 4, 12, 30, 0, 0, 128, 0, 0, 1536, 0, 0, 12288, 0, 61440, 130944, 262142, 524286, 1048574, 2097151, 4194303]
theorem spec_l3Rows.tab6 : rtab .any (opsOf Try.f19 6) = spec_l3Rows.T6 := by kernel_rfl
theorem spec_l3Rows.bits6 : waitsOk spec_l3Rows.T6.2 spec_l3Rows.B6 = true := by kernel_rfl
set_option maxHeartbeats 8000000 in
set_option maxRecDepth 100000 in
theorem spec_l3Rows.calls (k : Nat) (A0_0 : Option Addr) (c0_0 : Nat) (l0_0 : List Int) (A0_1 : Option Addr) (c0_1 : Nat) (l0_1 : List Int) (r : List (S28)) (w : World) (hr0_0 : Kd.C (Kd.int .i64) w A0_0 l0_0.length l0_0) (hc0_0 : l0_0.length ≤ c0_0) (hr0_1 : Kd.C (Kd.int .i64) w A0_1 l0_1.length l0_1) (hc0_1 : l0_1.length ≤ c0_1) (h : spec_l3Rows.f k l0_0 l0_1 = some r) :
  Calls Try.prog 19 #[.agg #[.slice A0_0 l0_0.length c0_0, .slice A0_1 l0_1.length c0_1]] w fun e w' => ∃ v0_ : Value, e = .returned (v0_) ∧ Kd.S k28 28 w' w.heap.size (fun _ => True) v0_ r ∧ Below w.heap.size w w' := by
 have hu28 := Try.underlying28
 have HR0_0 := Aside0.mk hr0_0
 have HC0_0 := Aside0.mk hc0_0
 clear hr0_0 hc0_0
 have HR0_1 := Aside0.mk hr0_1
 have HC0_1 := Aside0.mk hc0_1
 clear hr0_1 hc0_1
 have HB := Aside0.mk (Below.refl w.heap.size w)
 have H : (if 1 ≤ (l0_0.length : Int) then ((spec_SizeOf.f k (l0_0.drop 1)).bind fun t118 => (spec_l3Rows.l0 k (([] : List (S28))) t118 0 l0_0 l0_1)) else (none)) = some r := h
 clear h
 obtain ⟨y114, hy114⟩ : ∃ y_ : List (S28), y_ = (([] : List (S28))) := ⟨_, rfl⟩
 replace H : (if 1 ≤ (l0_0.length : Int) then ((spec_SizeOf.f k (l0_0.drop 1)).bind fun t118 => (spec_l3Rows.l0 k y114 t118 0 l0_0 l0_1)) else (none)) = some r := by first | (rw [hy114]; with_reducible exact H) | (have H2_ := (Option.bind_some _ _).symm.trans H; rw [hy114]; with_reducible exact H2_) | (have H2_ := (Option.bind_some _ _).symm.trans H; with_reducible exact H2_) | with_reducible exact H | (rw [hy114]; exact H) | exact H
 have Ny114 := Aside0.mk hy114
 clear hy114
 by_cases c2 : 1 ≤ (l0_0.length : Int)
 ·
  rw [if_pos c2] at H
  have c2b0 := eq_true c2
  have c2b1 : decide (1 ≤ (l0_0.length : Int)) = true := decide_eq_true c2
  clear c2
  replace H := Option.bind_eq_some_iff.mp H
  obtain ⟨t118, A30, H⟩ := H
  replace H : (spec_l3Rows.l0 k y114 t118 0 l0_0 l0_1) = some r := H
  have A3 := Aside0.mk A30
  clear A30
  have H' := Aside0.mk H
  clear H
  go_enter Try.func19, Try.ntmps19
  go_wp2_with (first | ((with_reducible refine gate_dst (N := 1) rfl ?_); refine box_event ?hg (N := 1) ?hd (cs := #[.slice A0_0 l0_0.length c0_0, .slice A0_1 l0_1.length c0_1]) (t := 28) ?hr ?_; (case hd => rfl); (case hg => rfl); (case hr => first | (go_simp; done) | (go_simp; rfl)); intro gb113 hg w4 hbox hb; have BK113 := Aside0.mk (hbox); have GW113 := Aside0.mk ((by rw [hg]; exact (below_size (bU HB.out)) : w.heap.size ≤ gb113)); have GE113 := Aside0.mk ((by rw [hg]; exact (below_size (bU HB.out)) : w.heap.size ≤ gb113)); replace HB := Aside0.mk (below_step (bU HB.out) hb); clear hb hbox hg) | ((with_reducible refine gate_dst (N := 6) rfl ?_); refine Kd.S_lit k28 _ 28 ?hg (N := 6) ?hd (xs := ([] : List (S28))) (inner := []) (ok := fun _ => True) (okp := fun _ => True) ?hr ?hp (fun _ hk => hk) trivial (Below.refl _ _) (Nat.le_refl _) (by simp) ?_; (case hd => rfl); (case hg => rfl); (case hr => first | (go_simp; done) | (go_simp; rfl)); (case hp => exact (Reps.none _ _)); intro v115 w5 ho6 hb hg_ hnew_; clear hg_ hnew_; (first | rw [← Ny114.out] at ho6 | (simp only [Int.reduceToNat] at ho6; rw [← Ny114.out] at ho6)); have HO116 := Aside0.mk (Kd.S_lower (Kd.S_newB ho6 (g := gb113) (o := .cells #[.slice A0_0 l0_0.length c0_0, .slice A0_1 l0_1.length c0_1] 28 (0, 0)) (kU BK113.out)) (below_size (bS1 HB.out GE113.out))); replace BK113 := Aside0.mk (kB BK113.out hb); replace HB := Aside0.mk (below_step (bS1 HB.out GE113.out) hb); clear hb ho6; have hcz7_0 : w5.cell? ⟨gb113, 0, none⟩ = some (.slice A0_0 l0_0.length c0_0) := (blk_cell BK113.out 0).trans rfl; have hcz7_1 : w5.cell? ⟨gb113, 1, none⟩ = some (.slice A0_1 l0_1.length c0_1) := (blk_cell BK113.out 1).trans rfl; have hfz7_0 := blk_frozen BK113.out 0; have hfz7_1 := blk_frozen BK113.out 1; obtain ⟨i08, hi08, _, hsz8, _⟩ := info_parts info3; obtain ⟨A8, hcut8, hA8, hC8⟩ := print_drop_of (P := Try.prog) (Value.int .i64) 0 22 3 .i64 Try.underlying22 hi08 hsz8 A0_0 c0_0 l0_0 1 (by omega) (of_decide_eq_true (by first | (with_reducible assumption) | assumption)) HC0_0.out; have HR117 := Aside0.mk (Kd.C_of_reads (h1 := fun _ => rfl) (hA8 _ (Kd.reads_of_C HR0_0.out))); have HC117 := Aside0.mk hC8; clear hA8 hC8 hi08 hsz8) | ((with_reducible refine gate_callee (f := 31) rfl ?_); refine goesL_ (some 10) rfl rfl Try.func31 (by kernel_rfl) rfl #[.slice A8 (l0_0.drop 1).length (c0_0 - 1)] rfl (by (try simp only [List.map_toArray, List.map_cons, List.map_nil]); first | done | (rw [show (l0_0.drop 1).length = (l0_0.length - 1) from List.length_drop] <;> rfl) | rfl | (simp only [List.length_drop, List.length_take]; rfl)) ?_; (with_reducible refine (spec_SizeOf.calls k _ _ (l0_0.drop 1) t118 _ ?side1 ?side2 A3.out).mono ?_); (case side1 => exact cU (Kd.C_below HR117.out HB.out)); (case side2 => exact HC117.out); rintro e w' ⟨rfl, ⟨nd, rfl⟩⟩; refine ⟨_, rfl, ?_⟩))
  go_loopg [3, 5] k (fun kq v3 v5 w' => ∃ (x3_1 : List (S28)) (x5_1 : Int), v5 = .int .i64 x5_1 ∧ Aside0 (spec_l3Rows.l0 kq x3_1 t118 x5_1 l0_0 l0_1 = some r) ∧ Aside0 (kq ≤ k) ∧ Aside0 (Kd.S k28 28 w' w.heap.size (fun k_ => k_ ≠ gb113) v3 x3_1) ∧ Aside0 (w'.heap[gb113]? = some (.cells #[(.slice A0_0 l0_0.length c0_0), (.slice A0_1 l0_1.length c0_1)] 28 (0, 0))) ∧ Aside0 (Below w.heap.size w w'))
  case atStart => exact ⟨(y114), (0), (by first | rfl | (simp; done) | (simp [*]; done)), H', ⟨Nat.le_refl _⟩, ⟨by refine SU ?_; exact Kd.S_mono HO116.out (fun _ hk => hk.2)⟩, ⟨by refine kU ?_; exact BK113.out⟩, ⟨by exact bS1 HB.out GE113.out⟩⟩
  case round =>
   clear H'
   try clear c1
   try clear c2
   try clear c2b0
   try clear c2b1
   try clear p2
   try clear c3
   try clear hcz7_0
   try clear hcz7_1
   try clear hfz7_0
   try clear hfz7_1
   obtain ⟨x3_1, x5_1, rfl, HA, HK1, HO_3, BK113, HB⟩ := hrel
   cases gk with
   | zero => exact absurd HA.out (by simp [spec_l3Rows.l0])
   | succ k1 =>
    have H := HA.out
    clear HA
    simp only [spec_l3Rows.l0] at H
    by_cases c9 : 0 < (l0_0.length : Int)
    ·
     rw [if_pos c9] at H
     have c9b0 : decide (0 < (l0_0.length : Int)) = true := decide_eq_true c9
     have c9b1 : decide (0 < l0_0.length) = true := decide_eq_true (by omega)
     clear c9
     by_cases c10 : x5_1 < (rd l0_0 0)
     ·
      rw [if_pos c10] at H
      have c10b0 : decide (x5_1 < (rd l0_0 0)) = true := decide_eq_true c10
      clear c10
      obtain ⟨y120, hy120⟩ : ∃ y_ : List Int, y_ = (([] : List Int)) := ⟨_, rfl⟩
      replace H : (if 1 ≤ (l0_0.length : Int) then (if y120.length + (l0_0.drop 1).length < 17592186044416 then ((some (([] : List Int) : List Int)).bind fun y127 => (if 0 ≤ (wrap64 (x5_1 * t118)) then (if (wrap64 (x5_1 * t118)) ≤ (wrap64 ((wrap64 (x5_1 * t118)) + t118)) then (if (wrap64 ((wrap64 (x5_1 * t118)) + t118)) ≤ (l0_1.length : Int) then (if y127.length + ((l0_1.take ((wrap64 ((wrap64 (x5_1 * t118)) + t118)) : Int).toNat).drop ((wrap64 (x5_1 * t118)) : Int).toNat).length < 17592186044416 then (if x3_1.length < 2932031007402 then (spec_l3Rows.l0 k1 (x3_1 ++ [(⟨(y120 ++ (l0_0.drop 1)), (y127 ++ ((l0_1.take ((wrap64 ((wrap64 (x5_1 * t118)) + t118)) : Int).toNat).drop ((wrap64 (x5_1 * t118)) : Int).toNat))⟩ : S28)]) t118 (wrap64 (x5_1 + 1)) l0_0 l0_1) else (none)) else (none)) else (none)) else (none)) else (none))) else (none)) else (none)) = some r := by first | (rw [hy120]; with_reducible exact H) | (have H2_ := (Option.bind_some _ _).symm.trans H; rw [hy120]; with_reducible exact H2_) | (have H2_ := (Option.bind_some _ _).symm.trans H; with_reducible exact H2_) | with_reducible exact H | (rw [hy120]; exact H) | exact H
      have Ny120 := Aside0.mk hy120
      clear hy120
      by_cases c11 : 1 ≤ (l0_0.length : Int)
      ·
       rw [if_pos c11] at H
       have c11b0 := eq_true c11
       have c11b1 : decide (1 ≤ (l0_0.length : Int)) = true := decide_eq_true c11
       clear c11
       by_cases c12 : y120.length + (l0_0.drop 1).length < 17592186044416
       ·
        rw [if_pos c12] at H
        have LMc12 := Aside0.mk c12
        clear c12
        obtain ⟨y124, hy124⟩ : ∃ y_ : List Int, y_ = (y120 ++ (l0_0.drop 1)) := ⟨_, rfl⟩
        replace H : ((some (([] : List Int) : List Int)).bind fun y127 => (if 0 ≤ (wrap64 (x5_1 * t118)) then (if (wrap64 (x5_1 * t118)) ≤ (wrap64 ((wrap64 (x5_1 * t118)) + t118)) then (if (wrap64 ((wrap64 (x5_1 * t118)) + t118)) ≤ (l0_1.length : Int) then (if y127.length + ((l0_1.take ((wrap64 ((wrap64 (x5_1 * t118)) + t118)) : Int).toNat).drop ((wrap64 (x5_1 * t118)) : Int).toNat).length < 17592186044416 then (if x3_1.length < 2932031007402 then (spec_l3Rows.l0 k1 (x3_1 ++ [(⟨y124, (y127 ++ ((l0_1.take ((wrap64 ((wrap64 (x5_1 * t118)) + t118)) : Int).toNat).drop ((wrap64 (x5_1 * t118)) : Int).toNat))⟩ : S28)]) t118 (wrap64 (x5_1 + 1)) l0_0 l0_1) else (none)) else (none)) else (none)) else (none)) else (none))) = some r := by first | (rw [hy124]; with_reducible exact H) | (have H2_ := (Option.bind_some _ _).symm.trans H; rw [hy124]; with_reducible exact H2_) | (have H2_ := (Option.bind_some _ _).symm.trans H; with_reducible exact H2_) | with_reducible exact H | (rw [hy124]; exact H) | exact H
        have Ny124 := Aside0.mk hy124
        clear hy124
        obtain ⟨y127, hy127⟩ : ∃ y_ : List Int, y_ = (([] : List Int)) := ⟨_, rfl⟩
        replace H : (if 0 ≤ (wrap64 (x5_1 * t118)) then (if (wrap64 (x5_1 * t118)) ≤ (wrap64 ((wrap64 (x5_1 * t118)) + t118)) then (if (wrap64 ((wrap64 (x5_1 * t118)) + t118)) ≤ (l0_1.length : Int) then (if y127.length + ((l0_1.take ((wrap64 ((wrap64 (x5_1 * t118)) + t118)) : Int).toNat).drop ((wrap64 (x5_1 * t118)) : Int).toNat).length < 17592186044416 then (if x3_1.length < 2932031007402 then (spec_l3Rows.l0 k1 (x3_1 ++ [(⟨y124, (y127 ++ ((l0_1.take ((wrap64 ((wrap64 (x5_1 * t118)) + t118)) : Int).toNat).drop ((wrap64 (x5_1 * t118)) : Int).toNat))⟩ : S28)]) t118 (wrap64 (x5_1 + 1)) l0_0 l0_1) else (none)) else (none)) else (none)) else (none)) else (none)) = some r := by first | (rw [hy127]; with_reducible exact H) | (have H2_ := (Option.bind_some _ _).symm.trans H; rw [hy127]; with_reducible exact H2_) | (have H2_ := (Option.bind_some _ _).symm.trans H; with_reducible exact H2_) | with_reducible exact H | (rw [hy127]; exact H) | exact H
        have Ny127 := Aside0.mk hy127
        clear hy127
        obtain ⟨ji13, hji13⟩ : ∃ j_ : Int, (wrap64 (x5_1 * t118)) = j_ := ⟨_, rfl⟩
        replace H : (if 0 ≤ (ji13) then (if (ji13) ≤ (wrap64 ((ji13) + t118)) then (if (wrap64 ((ji13) + t118)) ≤ (l0_1.length : Int) then (if y127.length + ((l0_1.take ((wrap64 ((ji13) + t118)) : Int).toNat).drop ((ji13) : Int).toNat).length < 17592186044416 then (if x3_1.length < 2932031007402 then (spec_l3Rows.l0 k1 (x3_1 ++ [(⟨y124, (y127 ++ ((l0_1.take ((wrap64 ((ji13) + t118)) : Int).toNat).drop ((ji13) : Int).toNat))⟩ : S28)]) t118 (wrap64 (x5_1 + 1)) l0_0 l0_1) else (none)) else (none)) else (none)) else (none)) else (none)) = some r := by first | (rw [hji13] at H; exact H) | (simp only [hji13] at H ⊢; exact H)
        have hji13w : (IntKind.i64.wrap (x5_1 * t118)) = ji13 := (i64_w _).trans hji13
        by_cases c14 : 0 ≤ (ji13)
        ·
         rw [if_pos c14] at H
         have c14b0 := eq_true c14
         have c14b1 : decide (0 ≤ (ji13)) = true := decide_eq_true c14
         clear c14
         by_cases c15 : (ji13) ≤ (wrap64 ((ji13) + t118))
         ·
          rw [if_pos c15] at H
          have c15b0 := eq_true c15
          have c15b1 : decide ((ji13) ≤ (wrap64 ((ji13) + t118))) = true := decide_eq_true c15
          by_cases c16 : (wrap64 ((ji13) + t118)) ≤ (l0_1.length : Int)
          ·
           rw [if_pos c16] at H
           have c16b0 := eq_true c16
           have c16b1 : decide ((wrap64 ((ji13) + t118)) ≤ (l0_1.length : Int)) = true := decide_eq_true c16
           by_cases c17 : y127.length + ((l0_1.take ((wrap64 ((ji13) + t118)) : Int).toNat).drop ((ji13) : Int).toNat).length < 17592186044416
           ·
            rw [if_pos c17] at H
            have LMc17 := Aside0.mk c17
            clear c17
            obtain ⟨y131, hy131⟩ : ∃ y_ : List Int, y_ = (y127 ++ ((l0_1.take ((wrap64 ((ji13) + t118)) : Int).toNat).drop ((ji13) : Int).toNat)) := ⟨_, rfl⟩
            replace H : (if x3_1.length < 2932031007402 then (spec_l3Rows.l0 k1 (x3_1 ++ [(⟨y124, y131⟩ : S28)]) t118 (wrap64 (x5_1 + 1)) l0_0 l0_1) else (none)) = some r := by first | (rw [hy131]; with_reducible exact H) | (have H2_ := (Option.bind_some _ _).symm.trans H; rw [hy131]; with_reducible exact H2_) | (have H2_ := (Option.bind_some _ _).symm.trans H; with_reducible exact H2_) | with_reducible exact H | (rw [hy131]; exact H) | exact H
            have Ny131 := Aside0.mk hy131
            clear hy131
            by_cases c18 : x3_1.length < 2932031007402
            ·
             rw [if_pos c18] at H
             have LMc18 := Aside0.mk c18
             clear c18
             obtain ⟨y134, hy134⟩ : ∃ y_ : List (S28), y_ = (x3_1 ++ [(⟨y124, y131⟩ : S28)]) := ⟨_, rfl⟩
             replace H : (spec_l3Rows.l0 k1 y134 t118 (wrap64 (x5_1 + 1)) l0_0 l0_1) = some r := by first | (rw [hy134]; with_reducible exact H) | (have H2_ := (Option.bind_some _ _).symm.trans H; rw [hy134]; with_reducible exact H2_) | (have H2_ := (Option.bind_some _ _).symm.trans H; with_reducible exact H2_) | with_reducible exact H | (rw [hy134]; exact H) | exact H
             have Ny134 := Aside0.mk hy134
             clear hy134
             have H' := Aside0.mk H
             clear H
             have hcz19_0 : wr.cell? ⟨gb113, 0, none⟩ = some (.slice A0_0 l0_0.length c0_0) := (blk_cell BK113.out 0).trans rfl
             have hcz19_1 : wr.cell? ⟨gb113, 1, none⟩ = some (.slice A0_1 l0_1.length c0_1) := (blk_cell BK113.out 1).trans rfl
             have hfz19_0 := blk_frozen BK113.out 0
             have hfz19_1 := blk_frozen BK113.out 1
             have p119 : 0 ≤ (0 : Int) := (by omega)
             have q119 : 0 < (l0_0.length : Int) := of_decide_eq_true (by first | (with_reducible assumption) | assumption)
             obtain ⟨ad119, e119, hx119_0⟩ := Kd.at_int HR0_0.out 0 p119 q119
             cases e119
             have qi119 : (0 < l0_0.length) = True := eq_true (by omega)
             (try rw [show ((0 : Int)).toNat = 0 from rfl] at hx119_0)
             (try rw [Addr.add_zero'] at hx119_0)
             replace hx119_0 := (HB.out.cell (World.block_lt_of_cell? w _ hx119_0)).trans hx119_0
             replace p119 := eq_true p119
             replace q119 := eq_true q119
             obtain ⟨Ao20, co20, eo20⟩ := Kd.S_slice HO_3.out
             subst eo20
             try go_wp2
             replace HO_3 := Aside0.mk (Kd.S_drew HO_3.out)
             replace BK113 := Aside0.mk (blk_drew BK113.out)
             replace HB := Aside0.mk (below_drew1 HB.out)
             obtain ⟨i022, hi022, _, hsz22, _⟩ := info_parts info3
             (try clear hcut8)
             obtain ⟨A22, hcut22, hA22, hC22⟩ := print_drop_of (P := Try.prog) (Value.int .i64) 0 22 3 .i64 Try.underlying22 hi022 hsz22 (some ad119) c0_0 l0_0 1 (by omega) (of_decide_eq_true (by first | (with_reducible assumption) | assumption)) HC0_0.out
             have HR123 := Aside0.mk (Kd.C_of_reads (h1 := fun _ => rfl) (hA22 _ (Kd.reads_of_C HR0_0.out)))
             have HC123 := Aside0.mk hC22
             clear hA22 hC22 hi022 hsz22
             obtain ⟨i023, hi023, _, hsz23, _⟩ := info_parts info3
             obtain ⟨A23, hcut23, hA23, hC23⟩ := print_mid_of (P := Try.prog) (Value.int .i64) 0 22 3 .i64 .i64 Try.underlying22 hi023 hsz23 A0_1 c0_1 l0_1 (ji13) (wrap64 ((ji13) + t118)) (of_decide_eq_true (by first | (with_reducible assumption) | assumption)) (by first | omega | exact of_decide_eq_true (by first | (with_reducible assumption) | assumption)) (of_decide_eq_true (by first | (with_reducible assumption) | assumption)) HC0_1.out
             have HR130 := Aside0.mk (Kd.C_of_reads (h1 := fun _ => rfl) (hA23 _ (Kd.reads_of_C HR0_1.out)))
             have HC130 := Aside0.mk hC23
             clear hA23 hC23 hi023 hsz23
             refine start_ (n := 23) (S := fun w' => w'.cell? ⟨gb113, 0, none⟩ = some (.slice (some ad119) l0_0.length c0_0) ∧ w'.cell? ⟨gb113, 1, none⟩ = some (.slice A0_1 l0_1.length c0_1)) (ds := []) #[false, false, false, false, false, false, false, false, false, false, false, false, false, false, false, false, false, false, false, false, false, false, false] (by kernel_rfl) rfl rfl ⟨(blk_cell BK113.out 0).trans rfl, (blk_cell BK113.out 1).trans rfl⟩ (fun hHeld => ?_); refine with_tabW spec_l3Rows.tab6 spec_l3Rows.bits6 (fun HT_ HW_ => ?_)
             generalize wr.drew = w21 at HO_3 BK113 HB HR123 HR130 hHeld ⊢
             refine pure_ (i := 0) (N := some 19) (v := ?_) (a' := ?_) #[true, false, false, false, false, false, false, false, false, false, false, false, false, false, false, false, false, false, false, false, false, false, false] rfl rfl (any_of HT_.out (by kernel_rfl)) (fun _ _ _ h => h) (Or.inl ⟨by rfl, ?_⟩) ?_ ?_
             rotate_left
             ·
              intro w'
              go_simp
              with_reducible rfl
             rotate_left
             ·
              simp only [Act.put, List.setIfInBounds_toArray, List.set_cons_zero, List.set_cons_succ, i64_w, i32_w]
              rfl
             refine pure_ (i := 2) (N := some 21) (v := ?_) (a' := ?_) #[true, false, true, false, false, false, false, false, false, false, false, false, false, false, false, false, false, false, false, false, false, false, false] rfl rfl (any_of HT_.out (by kernel_rfl)) (fun _ _ _ h => h) (Or.inl ⟨by rfl, ?_⟩) ?_ ?_
             rotate_left
             ·
              intro w'
              go_simp
              with_reducible rfl
             rotate_left
             ·
              simp only [Act.put, List.setIfInBounds_toArray, List.set_cons_zero, List.set_cons_succ, i64_w, i32_w]
              rfl
             refine pure_ (i := 7) (N := some 26) (v := ?_) (a' := ?_) #[true, false, true, false, false, false, false, true, false, false, false, false, false, false, false, false, false, false, false, false, false, false, false] rfl rfl (any_of HT_.out (by kernel_rfl)) (fun _ _ _ h => h) (Or.inl ⟨by rfl, ?_⟩) ?_ ?_
             rotate_left
             ·
              intro w'
              go_simp
              with_reducible rfl
             rotate_left
             ·
              simp only [Act.put, List.setIfInBounds_toArray, List.set_cons_zero, List.set_cons_succ, i64_w, i32_w]
              rfl
             refine pure_ (i := 9) (N := some 28) (v := ?_) (a' := ?_) #[true, false, true, false, false, false, false, true, false, true, false, false, false, false, false, false, false, false, false, false, false, false, false] rfl rfl (any_of HT_.out (by kernel_rfl)) (fun _ _ _ h => h) (Or.inl ⟨by rfl, ?_⟩) ?_ ?_
             rotate_left
             ·
              intro w'
              go_simp
              with_reducible rfl
             rotate_left
             ·
              simp only [Act.put, List.setIfInBounds_toArray, List.set_cons_zero, List.set_cons_succ, i64_w, i32_w]
              rfl
             refine pure_ (i := 10) (N := some 29) (v := ?_) (a' := ?_) #[true, false, true, false, false, false, false, true, false, true, true, false, false, false, false, false, false, false, false, false, false, false, false] rfl rfl (any_of HT_.out (by kernel_rfl)) (fun _ _ _ h => h) (Or.inl ⟨by rfl, ?_⟩) ?_ ?_
             rotate_left
             ·
              intro w'
              go_simp
              with_reducible rfl
             rotate_left
             ·
              simp only [Act.put, List.setIfInBounds_toArray, List.set_cons_zero, List.set_cons_succ, i64_w, i32_w]
              rfl
             refine pure_ (i := 11) (N := some 30) (v := ?_) (a' := ?_) #[true, false, true, false, false, false, false, true, false, true, true, true, false, false, false, false, false, false, false, false, false, false, false] rfl rfl (any_of HT_.out (by kernel_rfl)) (fun _ _ _ h => h) (Or.inl ⟨by rfl, ?_⟩) ?_ ?_
             rotate_left
             ·
              intro w'
              go_simp
              with_reducible rfl
             rotate_left
             ·
              simp only [Act.put, List.setIfInBounds_toArray, List.set_cons_zero, List.set_cons_succ, i64_w, i32_w]
              rfl
             refine pure_ (i := 12) (N := some 31) (v := ?_) (a' := ?_) #[true, false, true, false, false, false, false, true, false, true, true, true, true, false, false, false, false, false, false, false, false, false, false] rfl rfl (any_of HT_.out (by kernel_rfl)) (fun _ _ _ h => h) (Or.inl ⟨by rfl, ?_⟩) ?_ ?_
             rotate_left
             ·
              intro w'
              go_simp
              with_reducible rfl
             rotate_left
             ·
              simp only [Act.put, List.setIfInBounds_toArray, List.set_cons_zero, List.set_cons_succ, i64_w, i32_w]
              rfl
             refine pure_ (i := 13) (N := some 32) (v := ?_) (a' := ?_) #[true, false, true, false, false, false, false, true, false, true, true, true, true, true, false, false, false, false, false, false, false, false, false] rfl rfl (any_of HT_.out (by kernel_rfl)) (fun _ _ _ h => h) (Or.inl ⟨by rfl, ?_⟩) ?_ ?_
             rotate_left
             ·
              intro w'
              go_simp
              with_reducible rfl
             rotate_left
             ·
              simp only [Act.put, List.setIfInBounds_toArray, List.set_cons_zero, List.set_cons_succ, i64_w, i32_w]
              rfl
             refine pure_ (i := 14) (N := some 33) (v := ?_) (a' := ?_) #[true, false, true, false, false, false, false, true, false, true, true, true, true, true, true, false, false, false, false, false, false, false, false] rfl rfl (any_of HT_.out (by kernel_rfl)) (fun _ _ _ h => h) (Or.inl ⟨by rfl, ?_⟩) ?_ ?_
             rotate_left
             ·
              intro w'
              go_simp
              with_reducible rfl
             rotate_left
             ·
              simp only [Act.put, List.setIfInBounds_toArray, List.set_cons_zero, List.set_cons_succ, i64_w, i32_w]
              rfl
             refine pure_ (i := 15) (N := some 34) (v := ?_) (a' := ?_) #[true, false, true, false, false, false, false, true, false, true, true, true, true, true, true, true, false, false, false, false, false, false, false] rfl rfl (any_of HT_.out (by kernel_rfl)) (fun _ _ _ h => h) (Or.inl ⟨by rfl, ?_⟩) ?_ ?_
             rotate_left
             ·
              intro w'
              go_simp
              with_reducible rfl
             rotate_left
             ·
              simp only [Act.put, List.setIfInBounds_toArray, List.set_cons_zero, List.set_cons_succ, i64_w, i32_w]
              rfl
             refine pure_ (i := 16) (N := some 35) (v := ?_) (a' := ?_) #[true, false, true, false, false, false, false, true, false, true, true, true, true, true, true, true, true, false, false, false, false, false, false] rfl rfl (any_of HT_.out (by kernel_rfl)) (fun _ _ _ h => h) (Or.inl ⟨by rfl, ?_⟩) ?_ ?_
             rotate_left
             ·
              intro w'
              go_simp
              with_reducible rfl
             rotate_left
             ·
              simp only [Act.put, List.setIfInBounds_toArray, List.set_cons_zero, List.set_cons_succ, i64_w, i32_w]
              rfl
             refine take_ (i := 3) (N := some 22) (v := ?_) (a' := ?_) #[true, false, true, true, false, false, false, true, false, true, true, true, true, true, true, true, true, false, false, false, false, false, false] rfl rfl (take_ofW HT_.out HW_.out (by kernel_rfl)) (fun _ _ _ h => h) (Or.inl ⟨by rfl, ?_⟩) hHeld ?_ ?_
             rotate_left
             ·
              rintro w' ⟨s0, s1⟩
              go_simp
              with_reducible rfl
             rotate_left
             ·
              simp only [Act.put, List.setIfInBounds_toArray, List.set_cons_zero, List.set_cons_succ, i64_w, i32_w]
              rfl
             refine pure_ (i := 4) (N := some 23) (v := ?_) (a' := ?_) #[true, false, true, true, true, false, false, true, false, true, true, true, true, true, true, true, true, false, false, false, false, false, false] rfl rfl (any_of HT_.out (by kernel_rfl)) (fun _ _ _ h => h) (Or.inl ⟨by rfl, ?_⟩) ?_ ?_
             rotate_left
             ·
              intro w'
              go_simp
              with_reducible rfl
             rotate_left
             ·
              simp only [Act.put, List.setIfInBounds_toArray, List.set_cons_zero, List.set_cons_succ, i64_w, i32_w]
              rfl
             refine take_ (i := 8) (N := some 27) (v := ?_) (a' := ?_) #[true, false, true, true, true, false, false, true, true, true, true, true, true, true, true, true, true, false, false, false, false, false, false] rfl rfl (take_ofW HT_.out HW_.out (by kernel_rfl)) (fun _ _ _ h => h) (Or.inl ⟨by rfl, ?_⟩) hHeld ?_ ?_
             rotate_left
             ·
              rintro w' ⟨s0, s1⟩
              go_simp
              with_reducible rfl
             rotate_left
             ·
              simp only [Act.put, List.setIfInBounds_toArray, List.set_cons_zero, List.set_cons_succ, i64_w, i32_w]
              rfl
             refine pure_ (i := 17) (N := some 36) (v := ?_) (a' := ?_) #[true, false, true, true, true, false, false, true, true, true, true, true, true, true, true, true, true, true, false, false, false, false, false] rfl rfl (any_of HT_.out (by kernel_rfl)) (fun _ _ _ h => h) (Or.inl ⟨by rfl, ?_⟩) ?_ ?_
             rotate_left
             ·
              intro w'
              go_simp
              with_reducible rfl
             rotate_left
             ·
              simp only [Act.put, List.setIfInBounds_toArray, List.set_cons_zero, List.set_cons_succ, i64_w, i32_w]
              rfl
             refine join_ (σ := Value × Value × Value) 5 #[true, true, true, true, true, true, true, true, true, true, true, true, true, true, true, true, true, true, false, false, false, false, false] (fun s_ => [(20, s_.1), (24, s_.2.1), (25, s_.2.2)]) (fun s_ w' => (w'.cell? ⟨gb113, 0, none⟩ = some (.slice (some ad119) l0_0.length c0_0) ∧ w'.cell? ⟨gb113, 1, none⟩ = some (.slice A0_1 l0_1.length c0_1)) ∧ (Kd.R (Kd.int .i64) 3 w' w.heap.size (fun k_ => some k_ ≠ (s_.2.2 : Value).ownBlock) s_.2.1 y124) ∧ (Kd.R (Kd.int .i64) 3 w' w.heap.size (fun k_ => some k_ ≠ (s_.2.1 : Value).ownBlock) s_.2.2 y127) ∧ (Kd.S k28 28 w' w.heap.size (fun k_ => some k_ ≠ (s_.2.1 : Value).ownBlock ∧ some k_ ≠ (s_.2.2 : Value).ownBlock ∧ k_ ≠ gb113) (.slice Ao20 x3_1.length co20) x3_1) ∧ (w'.heap[gb113]? = some (.cells #[.slice (some ad119) l0_0.length c0_0, .slice A0_1 l0_1.length c0_1] 28 (0, 0))) ∧ (Below w.heap.size w w')) ?_ ?_
             rotate_left
             ·
              intro hCont
              refine two_ (i := 1) (j := 6) (Ni := some 20) (Nj := some 25) #[true, true, true, true, true, false, false, true, true, true, true, true, true, true, true, true, true, true, false, false, false, false, false] #[true, false, true, true, true, false, true, true, true, true, true, true, true, true, true, true, true, true, false, false, false, false, false] rfl rfl rfl rfl (two_of HT_.out (by kernel_rfl)) (by decide) (by decide) (fun K hK => ?_) (fun K hK => ?_)
              ·
               skip
               refine Kd.R_lit_step (Kd.int .i64) _ 3 ?hg (N := 20) ?hd (xs := ([] : List Int)) (inner := []) (ok := fun _ => True) (okp := fun _ => True) ?hr ?hp (fun _ hk => hk) trivial (Below.refl _ _) (Nat.le_refl _) (by simp) ?_; (case hd => rfl); (case hg => rfl); (case hr => first | (go_simp; done) | (go_simp; rfl)); (case hp => exact (Reps.none _ _))
               intro v121 w24 ho25 hb hg_ hnew_
               clear hg_ hnew_
               (first | rw [← Ny120.out] at ho25 | (simp only [Int.reduceToNat] at ho25; rw [← Ny120.out] at ho25))
               replace HO_3 := Aside0.mk (Kd.S_elder' (SU HO_3.out) (Kd.R_base ho25) hb)
               have HO122 := Aside0.mk (Kd.R_lower ho25 (below_size (bS1 HB.out GE113.out)))
               replace BK113 := Aside0.mk (kB BK113.out hb)
               replace HB := Aside0.mk (below_step (bS1 HB.out GE113.out) hb)
               clear hb ho25
               refine hK.out _ _ ⟨(blk_cell BK113.out 0).trans rfl, (blk_cell BK113.out 1).trans rfl⟩ (fun hHeld => ?_)
               clear hK K
               refine norm_ (a' := ?_) ?_ ?_
               rotate_left
               ·
                show Act.put _ (some 20) _ = _
                simp only [Act.put, List.setIfInBounds_toArray, List.set_cons_zero, List.set_cons_succ, i64_w, i32_w]
                rfl
               refine two_ (i := 5) (j := 6) (Ni := some 24) (Nj := some 25) #[true, true, true, true, true, true, false, true, true, true, true, true, true, true, true, true, true, true, false, false, false, false, false] #[true, true, true, true, true, false, true, true, true, true, true, true, true, true, true, true, true, true, false, false, false, false, false] rfl rfl rfl rfl (two_of HT_.out (by kernel_rfl)) (by decide) (by decide) (fun K hK => ?_) (fun K hK => ?_)
               ·
                skip
                refine Kd.R_append_rows_step (Kd.int .i64) (w0 := w) w.heap.size (by rfl) (.tmp 20) (.tmp 23) 22 3 (.int .i64 0) 8 rfl Try.underlying22 info3 rfl (by decide) (by omega) v121 y120 (l0_0.drop 1) _ _ _ (fun _ => True) (fun _ => False) rfl rfl ?aO ?aR (fun _ _ h => h) (fun _ h => h.elim) ?aF ?aB ?aS ?aL ?_
                (case aR => first | (rw [← show (l0_0.drop 1).length = (l0_0.length - 1) from List.length_drop]; exact cU (Kd.C_below HR123.out HB.out)) | (exact cU (Kd.C_below HR123.out HB.out)))
                (case aB => exact (bS1 HB.out GE113.out))
                (case aF => exact (fun _ _ => trivial))
                (case aO => exact (RU HO122.out))
                (case aS => exact (below_size (bS1 HB.out GE113.out)))
                (case aL => have := LMc12.out; have hlx_ := (show (l0_0.drop 1).length = (l0_0.length - 1) from List.length_drop); omega)
                intro v125 w26 ho hb hg hat
                rw [← Ny124.out] at ho
                have n0_ := Aside0.mk (Kd.S_after (ok := (fun k_ => k_ ≠ gb113)) (SU HO_3.out) hg hat)
                have n1_ := Aside0.mk (blk_grown (g := gb113) (o := .cells #[.slice (some ad119) l0_0.length c0_0, .slice A0_1 l0_1.length c0_1] 28 (0, 0)) (kU BK113.out) hg (Kd.R_ne HO122.out BK113.out (by decide)))
                have n2_ := Aside0.mk (hb)
                have n3_ := Aside0.mk (ho)
                clear HO_3 BK113 HB HO122
                have HO_3 := n0_
                have BK113 := n1_
                have HB := n2_
                have HO126 := n3_
                clear n0_ n1_ n2_ n3_
                clear ho hb hg hat
                refine hK.out _ _ ⟨(blk_cell BK113.out 0).trans rfl, (blk_cell BK113.out 1).trans rfl⟩ (fun hHeld => ?_)
                clear hK K
                refine norm_ (a' := ?_) ?_ ?_
                rotate_left
                ·
                 show Act.put _ (some 24) _ = _
                 simp only [Act.put, List.setIfInBounds_toArray, List.set_cons_zero, List.set_cons_succ, i64_w, i32_w]
                 rfl
                refine one_ (i := 6) (N := some 25) #[true, true, true, true, true, true, true, true, true, true, true, true, true, true, true, true, true, true, false, false, false, false, false] rfl rfl (one_of HT_.out (by kernel_rfl)) (by decide) (fun K hK => ?_)
                refine Kd.R_lit_step (Kd.int .i64) _ 3 ?hg (N := 25) ?hd (xs := ([] : List Int)) (inner := []) (ok := fun _ => True) (okp := fun _ => True) ?hr ?hp (fun _ hk => hk) trivial (Below.refl _ _) (Nat.le_refl _) (by simp) ?_; (case hd => rfl); (case hg => rfl); (case hr => first | (go_simp; done) | (go_simp; rfl)); (case hp => exact (Reps.none _ _))
                intro v128 w27 ho28 hb hg_ hnew_
                clear hg_ hnew_
                (first | rw [← Ny127.out] at ho28 | (simp only [Int.reduceToNat] at ho28; rw [← Ny127.out] at ho28))
                replace HO_3 := Aside0.mk (Kd.S_elder' (SU HO_3.out) (Kd.R_base ho28) hb)
                have HO129 := Aside0.mk (Kd.R_lower (Kd.R_new' ho28 (Kd.R_lt (RU HO126.out))) (below_size (bS1 HB.out GE113.out)))
                replace HO126 := Aside0.mk (Kd.R_elder' (RU HO126.out) (Kd.R_base ho28) hb)
                replace BK113 := Aside0.mk (kB BK113.out hb)
                replace HB := Aside0.mk (below_step (bS1 HB.out GE113.out) hb)
                clear hb ho28
                refine hK.out _ _ ⟨(blk_cell BK113.out 0).trans rfl, (blk_cell BK113.out 1).trans rfl⟩ (fun hHeld => ?_)
                clear hK K
                refine norm_ (a' := ?_) ?_ ?_
                rotate_left
                ·
                 show Act.put _ (some 25) _ = _
                 simp only [Act.put, List.setIfInBounds_toArray, List.set_cons_zero, List.set_cons_succ, i64_w, i32_w]
                 rfl
                exact norm_ (by simp only [putAll, Act.put, List.setIfInBounds_toArray, List.set_cons_zero, List.set_cons_succ]) (hCont (v121, v125, v128) _ ⟨hHeld, (by refine RU ?_; exact Kd.R_mono HO126.out (fun _ hk => hk.2)), (by refine RU ?_; exact Kd.R_mono HO129.out (fun _ hk => hk.2)), (by refine SU ?_; exact Kd.S_mono HO_3.out (fun _ hk => ⟨hk.1.2, ⟨hk.2, hk.1.1⟩⟩)), (kU BK113.out), (bS1 HB.out GE113.out)⟩)
               ·
                skip
                refine Kd.R_lit_step (Kd.int .i64) _ 3 ?hg (N := 25) ?hd (xs := ([] : List Int)) (inner := []) (ok := fun _ => True) (okp := fun _ => True) ?hr ?hp (fun _ hk => hk) trivial (Below.refl _ _) (Nat.le_refl _) (by simp) ?_; (case hd => rfl); (case hg => rfl); (case hr => first | (go_simp; done) | (go_simp; rfl)); (case hp => exact (Reps.none _ _))
                intro v128 w26 ho27 hb hg_ hnew_
                clear hg_ hnew_
                (first | rw [← Ny127.out] at ho27 | (simp only [Int.reduceToNat] at ho27; rw [← Ny127.out] at ho27))
                replace HO_3 := Aside0.mk (Kd.S_elder' (SU HO_3.out) (Kd.R_base ho27) hb)
                have HO129 := Aside0.mk (Kd.R_lower (Kd.R_new' ho27 (Kd.R_lt (RU HO122.out))) (below_size (bS1 HB.out GE113.out)))
                replace HO122 := Aside0.mk (Kd.R_elder' (RU HO122.out) (Kd.R_base ho27) hb)
                replace BK113 := Aside0.mk (kB BK113.out hb)
                replace HB := Aside0.mk (below_step (bS1 HB.out GE113.out) hb)
                clear hb ho27
                refine hK.out _ _ ⟨(blk_cell BK113.out 0).trans rfl, (blk_cell BK113.out 1).trans rfl⟩ (fun hHeld => ?_)
                clear hK K
                refine norm_ (a' := ?_) ?_ ?_
                rotate_left
                ·
                 show Act.put _ (some 25) _ = _
                 simp only [Act.put, List.setIfInBounds_toArray, List.set_cons_zero, List.set_cons_succ, i64_w, i32_w]
                 rfl
                refine one_ (i := 5) (N := some 24) #[true, true, true, true, true, true, true, true, true, true, true, true, true, true, true, true, true, true, false, false, false, false, false] rfl rfl (one_of HT_.out (by kernel_rfl)) (by decide) (fun K hK => ?_)
                refine Kd.R_append_rows_step (Kd.int .i64) (w0 := w) w.heap.size (by rfl) (.tmp 20) (.tmp 23) 22 3 (.int .i64 0) 8 rfl Try.underlying22 info3 rfl (by decide) (by omega) v121 y120 (l0_0.drop 1) _ _ _ (fun k_ => some k_ ≠ (v128 : Value).ownBlock) (fun _ => False) rfl rfl ?aO ?aR (fun _ _ h => h) (fun _ h => h.elim) ?aF ?aB ?aS ?aL ?_
                (case aR => first | (rw [← show (l0_0.drop 1).length = (l0_0.length - 1) from List.length_drop]; exact cU (Kd.C_below HR123.out HB.out)) | (exact cU (Kd.C_below HR123.out HB.out)))
                (case aB => exact (bS1 HB.out GE113.out))
                (case aF => exact (fun k_ hk => Kd.fresh' (Kd.R_lt (RU HO129.out)) k_ hk))
                (case aO => exact (by refine RU ?_; exact Kd.R_mono HO122.out (fun _ hk => hk.2)))
                (case aS => exact (below_size (bS1 HB.out GE113.out)))
                (case aL => have := LMc12.out; have hlx_ := (show (l0_0.drop 1).length = (l0_0.length - 1) from List.length_drop); omega)
                intro v125 w28 ho hb hg hat
                rw [← Ny124.out] at ho
                have n0_ := Aside0.mk (Kd.S_after (ok := (fun k_ => some k_ ≠ (v128 : Value).ownBlock ∧ k_ ≠ gb113)) (by refine SU ?_; exact Kd.S_mono HO_3.out (fun _ hk => ⟨⟨hk.2, hk.1.1⟩, hk.1.2⟩)) hg hat)
                have n1_ := Aside0.mk (blk_grown (g := gb113) (o := .cells #[.slice (some ad119) l0_0.length c0_0, .slice A0_1 l0_1.length c0_1] 28 (0, 0)) (kU BK113.out) hg (Kd.R_ne HO122.out BK113.out (by decide)))
                have n2_ := Aside0.mk (Kd.R_after (ok := (fun _ => True)) (RU HO129.out) hg hat)
                have n3_ := Aside0.mk (hb)
                have n4_ := Aside0.mk (ho)
                clear HO_3 BK113 HO129 HB HO122
                have HO_3 := n0_
                have BK113 := n1_
                have HO129 := n2_
                have HB := n3_
                have HO126 := n4_
                clear n0_ n1_ n2_ n3_ n4_
                clear ho hb hg hat
                refine hK.out _ _ ⟨(blk_cell BK113.out 0).trans rfl, (blk_cell BK113.out 1).trans rfl⟩ (fun hHeld => ?_)
                clear hK K
                refine norm_ (a' := ?_) ?_ ?_
                rotate_left
                ·
                 show Act.put _ (some 24) _ = _
                 simp only [Act.put, List.setIfInBounds_toArray, List.set_cons_zero, List.set_cons_succ, i64_w, i32_w]
                 rfl
                exact norm_ (by simp only [putAll, Act.put, List.setIfInBounds_toArray, List.set_cons_zero, List.set_cons_succ]) (hCont (v121, v125, v128) _ ⟨hHeld, (RU HO126.out), (by refine RU ?_; exact Kd.R_mono HO129.out (fun _ hk => hk.2)), (by refine SU ?_; exact Kd.S_mono HO_3.out (fun _ hk => ⟨hk.2, ⟨hk.1.1, hk.1.2⟩⟩)), (kU BK113.out), (bS1 HB.out GE113.out)⟩)
              ·
               skip
               refine Kd.R_lit_step (Kd.int .i64) _ 3 ?hg (N := 25) ?hd (xs := ([] : List Int)) (inner := []) (ok := fun _ => True) (okp := fun _ => True) ?hr ?hp (fun _ hk => hk) trivial (Below.refl _ _) (Nat.le_refl _) (by simp) ?_; (case hd => rfl); (case hg => rfl); (case hr => first | (go_simp; done) | (go_simp; rfl)); (case hp => exact (Reps.none _ _))
               intro v128 w24 ho25 hb hg_ hnew_
               clear hg_ hnew_
               (first | rw [← Ny127.out] at ho25 | (simp only [Int.reduceToNat] at ho25; rw [← Ny127.out] at ho25))
               replace HO_3 := Aside0.mk (Kd.S_elder' (SU HO_3.out) (Kd.R_base ho25) hb)
               have HO129 := Aside0.mk (Kd.R_lower ho25 (below_size (bS1 HB.out GE113.out)))
               replace BK113 := Aside0.mk (kB BK113.out hb)
               replace HB := Aside0.mk (below_step (bS1 HB.out GE113.out) hb)
               clear hb ho25
               refine hK.out _ _ ⟨(blk_cell BK113.out 0).trans rfl, (blk_cell BK113.out 1).trans rfl⟩ (fun hHeld => ?_)
               clear hK K
               refine norm_ (a' := ?_) ?_ ?_
               rotate_left
               ·
                show Act.put _ (some 25) _ = _
                simp only [Act.put, List.setIfInBounds_toArray, List.set_cons_zero, List.set_cons_succ, i64_w, i32_w]
                rfl
               refine one_ (i := 1) (N := some 20) #[true, true, true, true, true, false, true, true, true, true, true, true, true, true, true, true, true, true, false, false, false, false, false] rfl rfl (one_of HT_.out (by kernel_rfl)) (by decide) (fun K hK => ?_)
               refine Kd.R_lit_step (Kd.int .i64) _ 3 ?hg (N := 20) ?hd (xs := ([] : List Int)) (inner := []) (ok := fun _ => True) (okp := fun _ => True) ?hr ?hp (fun _ hk => hk) trivial (Below.refl _ _) (Nat.le_refl _) (by simp) ?_; (case hd => rfl); (case hg => rfl); (case hr => first | (go_simp; done) | (go_simp; rfl)); (case hp => exact (Reps.none _ _))
               intro v121 w26 ho27 hb hg_ hnew_
               clear hg_ hnew_
               (first | rw [← Ny120.out] at ho27 | (simp only [Int.reduceToNat] at ho27; rw [← Ny120.out] at ho27))
               replace HO_3 := Aside0.mk (Kd.S_elder' (SU HO_3.out) (Kd.R_base ho27) hb)
               have HO122 := Aside0.mk (Kd.R_lower (Kd.R_new' ho27 (Kd.R_lt (RU HO129.out))) (below_size (bS1 HB.out GE113.out)))
               replace HO129 := Aside0.mk (Kd.R_elder' (RU HO129.out) (Kd.R_base ho27) hb)
               replace BK113 := Aside0.mk (kB BK113.out hb)
               replace HB := Aside0.mk (below_step (bS1 HB.out GE113.out) hb)
               clear hb ho27
               refine hK.out _ _ ⟨(blk_cell BK113.out 0).trans rfl, (blk_cell BK113.out 1).trans rfl⟩ (fun hHeld => ?_)
               clear hK K
               refine norm_ (a' := ?_) ?_ ?_
               rotate_left
               ·
                show Act.put _ (some 20) _ = _
                simp only [Act.put, List.setIfInBounds_toArray, List.set_cons_zero, List.set_cons_succ, i64_w, i32_w]
                rfl
               refine one_ (i := 5) (N := some 24) #[true, true, true, true, true, true, true, true, true, true, true, true, true, true, true, true, true, true, false, false, false, false, false] rfl rfl (one_of HT_.out (by kernel_rfl)) (by decide) (fun K hK => ?_)
               refine Kd.R_append_rows_step (Kd.int .i64) (w0 := w) w.heap.size (by rfl) (.tmp 20) (.tmp 23) 22 3 (.int .i64 0) 8 rfl Try.underlying22 info3 rfl (by decide) (by omega) v121 y120 (l0_0.drop 1) _ _ _ (fun k_ => some k_ ≠ (v128 : Value).ownBlock) (fun _ => False) rfl rfl ?aO ?aR (fun _ _ h => h) (fun _ h => h.elim) ?aF ?aB ?aS ?aL ?_
               (case aR => first | (rw [← show (l0_0.drop 1).length = (l0_0.length - 1) from List.length_drop]; exact cU (Kd.C_below HR123.out HB.out)) | (exact cU (Kd.C_below HR123.out HB.out)))
               (case aB => exact (bS1 HB.out GE113.out))
               (case aF => exact (fun k_ hk => Kd.fresh' (Kd.R_lt (RU HO129.out)) k_ hk))
               (case aO => exact (by refine RU ?_; exact Kd.R_mono HO122.out (fun _ hk => hk.2)))
               (case aS => exact (below_size (bS1 HB.out GE113.out)))
               (case aL => have := LMc12.out; have hlx_ := (show (l0_0.drop 1).length = (l0_0.length - 1) from List.length_drop); omega)
               intro v125 w28 ho hb hg hat
               rw [← Ny124.out] at ho
               have n0_ := Aside0.mk (Kd.S_after (ok := (fun k_ => some k_ ≠ (v128 : Value).ownBlock ∧ k_ ≠ gb113)) (by refine SU ?_; exact Kd.S_mono HO_3.out (fun _ hk => ⟨⟨hk.1.2, hk.1.1⟩, hk.2⟩)) hg hat)
               have n1_ := Aside0.mk (blk_grown (g := gb113) (o := .cells #[.slice (some ad119) l0_0.length c0_0, .slice A0_1 l0_1.length c0_1] 28 (0, 0)) (kU BK113.out) hg (Kd.R_ne HO122.out BK113.out (by decide)))
               have n2_ := Aside0.mk (Kd.R_after (ok := (fun _ => True)) (RU HO129.out) hg hat)
               have n3_ := Aside0.mk (hb)
               have n4_ := Aside0.mk (ho)
               clear HO_3 BK113 HO129 HB HO122
               have HO_3 := n0_
               have BK113 := n1_
               have HO129 := n2_
               have HB := n3_
               have HO126 := n4_
               clear n0_ n1_ n2_ n3_ n4_
               clear ho hb hg hat
               refine hK.out _ _ ⟨(blk_cell BK113.out 0).trans rfl, (blk_cell BK113.out 1).trans rfl⟩ (fun hHeld => ?_)
               clear hK K
               refine norm_ (a' := ?_) ?_ ?_
               rotate_left
               ·
                show Act.put _ (some 24) _ = _
                simp only [Act.put, List.setIfInBounds_toArray, List.set_cons_zero, List.set_cons_succ, i64_w, i32_w]
                rfl
               exact norm_ (by simp only [putAll, Act.put, List.setIfInBounds_toArray, List.set_cons_zero, List.set_cons_succ]) (hCont (v121, v125, v128) _ ⟨hHeld, (RU HO126.out), (by refine RU ?_; exact Kd.R_mono HO129.out (fun _ hk => hk.2)), (by refine SU ?_; exact Kd.S_mono HO_3.out (fun _ hk => ⟨hk.2, ⟨hk.1.1, hk.1.2⟩⟩)), (kU BK113.out), (bS1 HB.out GE113.out)⟩)
             rintro ⟨v121, v125, v128⟩ w29 ⟨hS_, h0_, h1_, h2_, h3_, h4_⟩
             have n0_ : Aside0 (Kd.R (Kd.int .i64) 3 w29 w.heap.size (fun k_ => some k_ ≠ (v128 : Value).ownBlock) v125 y124) := ⟨h0_⟩
             have n1_ : Aside0 (Kd.R (Kd.int .i64) 3 w29 w.heap.size (fun k_ => some k_ ≠ (v125 : Value).ownBlock) v128 y127) := ⟨h1_⟩
             have n2_ : Aside0 (Kd.S k28 28 w29 w.heap.size (fun k_ => some k_ ≠ (v125 : Value).ownBlock ∧ some k_ ≠ (v128 : Value).ownBlock ∧ k_ ≠ gb113) (.slice Ao20 x3_1.length co20) x3_1) := ⟨h2_⟩
             have n3_ : Aside0 (w29.heap[gb113]? = some (.cells #[.slice (some ad119) l0_0.length c0_0, .slice A0_1 l0_1.length c0_1] 28 (0, 0))) := ⟨h3_⟩
             have n4_ : Aside0 (Below w.heap.size w w29) := ⟨h4_⟩
             clear HO_3 BK113 HB
             clear h0_ h1_ h2_ h3_ h4_
             have HO126 := n0_
             have HO129 := n1_
             have HO_3 := n2_
             have BK113 := n3_
             have HB := n4_
             clear n0_ n1_ n2_ n3_ n4_
             have hHeld : w29.cell? ⟨gb113, 0, none⟩ = some (.slice (some ad119) l0_0.length c0_0) ∧ w29.cell? ⟨gb113, 1, none⟩ = some (.slice A0_1 l0_1.length c0_1) := hS_
             refine norm_ (a' := ?_) ?_ ?_
             rotate_left
             ·
              simp only [putAll, Act.put, List.setIfInBounds_toArray, List.set_cons_zero, List.set_cons_succ]
              rfl
             refine one_ (i := 18) (N := some 37) #[true, true, true, true, true, true, true, true, true, true, true, true, true, true, true, true, true, true, true, false, false, false, false] rfl rfl (one_of HT_.out (by kernel_rfl)) (by decide) (fun K hK => ?_)
             refine Kd.R_append_rows_step (Kd.int .i64) (w0 := w) w.heap.size (by rfl) (.tmp 25) (.tmp 36) 22 3 (.int .i64 0) 8 rfl Try.underlying22 info3 rfl (by decide) (by omega) v128 y127 ((l0_1.take ((wrap64 ((ji13) + t118)) : Int).toNat).drop ((ji13) : Int).toNat) _ _ _ (fun k_ => some k_ ≠ (v125 : Value).ownBlock) (fun _ => False) rfl rfl ?aO ?aR (fun _ _ h => h) (fun _ h => h.elim) ?aF ?aB ?aS ?aL ?_
             (case aR => first | (rw [← show ((l0_1.take ((wrap64 ((ji13) + t118)) : Int).toNat).drop ((ji13) : Int).toNat).length = ((wrap64 ((ji13) + t118)).toNat - (ji13).toNat) from (by rw [List.length_drop, List.length_take]; have h_ : ((wrap64 ((ji13) + t118)) : Int) ≤ (l0_1.length : Int) := of_decide_eq_true (by first | (with_reducible assumption) | assumption); omega)]; exact cU (Kd.C_below HR130.out HB.out)) | (exact cU (Kd.C_below HR130.out HB.out)))
             (case aB => exact (bS1 HB.out GE113.out))
             (case aF => exact (fun k_ hk => Kd.fresh' (Kd.R_lt (RU HO126.out)) k_ hk))
             (case aO => exact (RU HO129.out))
             (case aS => exact (below_size (bS1 HB.out GE113.out)))
             (case aL => have := LMc17.out; have hlx_ := (show ((l0_1.take ((wrap64 ((ji13) + t118)) : Int).toNat).drop ((ji13) : Int).toNat).length = ((wrap64 ((ji13) + t118)).toNat - (ji13).toNat) from (by rw [List.length_drop, List.length_take]; have h_ : ((wrap64 ((ji13) + t118)) : Int) ≤ (l0_1.length : Int) := of_decide_eq_true (by first | (with_reducible assumption) | assumption); omega)); omega)
             intro v132 w30 ho hb hg hat
             rw [← Ny131.out] at ho
             have n0_ := Aside0.mk (Kd.S_after (ok := (fun k_ => some k_ ≠ (v125 : Value).ownBlock ∧ k_ ≠ gb113)) (by refine SU ?_; exact Kd.S_mono HO_3.out (fun _ hk => ⟨⟨hk.1, hk.2.2⟩, hk.2.1⟩)) hg hat)
             have n1_ := Aside0.mk (blk_grown (g := gb113) (o := .cells #[.slice (some ad119) l0_0.length c0_0, .slice A0_1 l0_1.length c0_1] 28 (0, 0)) (kU BK113.out) hg (Kd.R_ne HO129.out BK113.out (by decide)))
             have n2_ := Aside0.mk (Kd.R_after (ok := (fun _ => True)) (by refine RU ?_; exact Kd.R_mono HO126.out (fun _ hk => ⟨trivial, hk⟩)) hg hat)
             have n3_ := Aside0.mk (hb)
             have n4_ := Aside0.mk (ho)
             clear HO_3 BK113 HO126 HB HO129
             have HO_3 := n0_
             have BK113 := n1_
             have HO126 := n2_
             have HB := n3_
             have HO133 := n4_
             clear n0_ n1_ n2_ n3_ n4_
             clear ho hb hg hat
             obtain ⟨Ao31, co31, eo31⟩ := Kd.R_slice HO133.out
             (first | subst eo31 | (injection eo31 with f1_ f2_ f3_; have f4_ := f1_.symm; have f5_ := f3_.symm; clear f1_ f2_ f3_; subst f4_; subst f5_))
             obtain ⟨Ao32, co32, eo32⟩ := Kd.R_slice HO126.out
             (first | subst eo32 | (injection eo32 with f1_ f2_ f3_; have f4_ := f1_.symm; have f5_ := f3_.symm; clear f1_ f2_ f3_; subst f4_; subst f5_))
             refine hK.out _ _ ⟨(blk_cell BK113.out 0).trans rfl, (blk_cell BK113.out 1).trans rfl⟩ (fun hHeld => ?_)
             clear hK K
             refine norm_ (a' := ?_) ?_ ?_
             rotate_left
             ·
              show Act.put _ (some 37) _ = _
              simp only [Act.put, List.setIfInBounds_toArray, List.set_cons_zero, List.set_cons_succ, i64_w, i32_w]
              rfl
             refine pure_ (i := 19) (N := some 38) (v := ?_) (a' := ?_) #[true, true, true, true, true, true, true, true, true, true, true, true, true, true, true, true, true, true, true, true, false, false, false] rfl rfl (any_of HT_.out (by kernel_rfl)) (fun _ _ _ h => h) (Or.inl ⟨by rfl, ?_⟩) ?_ ?_
             rotate_left
             ·
              intro w'
              go_simp
              with_reducible rfl
             rotate_left
             ·
              simp only [Act.put, List.setIfInBounds_toArray, List.set_cons_zero, List.set_cons_succ, i64_w, i32_w]
              rfl
             refine one_ (i := 20) (N := some 39) #[true, true, true, true, true, true, true, true, true, true, true, true, true, true, true, true, true, true, true, true, true, false, false] rfl rfl (one_of HT_.out (by kernel_rfl)) (by decide) (fun K hK => ?_)
             refine value_ (w1 := ?_) (v := ?_) (by rfl) rfl ?_ ?_
             rotate_left 2
             ·
              go_simp
              constructor
              ·
               rfl
              ·
               rfl
             refine hK.out _ _ ⟨(blk_cell (blk_alloc BK113.out _) 0).trans rfl, (blk_cell (blk_alloc BK113.out _) 1).trans rfl⟩ (fun hHeld => ?_)
             clear hK K
             refine norm_ (a' := ?_) ?_ ?_
             rotate_left
             ·
              show Act.put _ (some 39) _ = _
              simp only [Act.put, List.setIfInBounds_toArray, List.set_cons_zero, List.set_cons_succ, i64_w, i32_w]
              rfl
             refine one_ (i := 21) (N := some 40) #[true, true, true, true, true, true, true, true, true, true, true, true, true, true, true, true, true, true, true, true, true, true, false] rfl rfl (one_of HT_.out (by kernel_rfl)) (by decide) (fun K hK => ?_)
             refine Kd.S_append_step k28 (w0 := w) w.heap.size (by rfl) (.tmp 19) (.tmp 39) 26 28 (.agg #[(.slice none 0 0), (.slice none 0 0)]) 48 rfl Try.underlying26 info28 rfl (by decide) (by omega) (.slice Ao20 x3_1.length co20) x3_1 (⟨y124, y131⟩ : S28) [.slice Ao32 y124.length co32, .slice Ao31 y131.length co31] (fun k_ => k_ ≠ gb113) (fun k_ => some k_ = (.slice Ao32 y124.length co32 : Value).ownBlock ∨ some k_ = (.slice Ao31 y131.length co31 : Value).ownBlock) rfl rfl ?aP (fun k_ hk_ => hk_.elim (fun h_ => ((Kd.R_mono (ok' := fun k_ => ((fun k_ => k_ ≠ gb113)) k_ ∧ some k_ ≠ (.slice Ao20 x3_1.length co20 : Value).ownBlock) (Kd.R_types (Kd.R_apart' (HO126.out) (Kd.S_typed HO_3.out) (by decide)) BK113.out (by decide)) (fun k_ hk => ⟨hk.2, hk.1.2⟩))).1 k_ h_.symm) (fun h_ => ((Kd.R_mono (ok' := fun k_ => ((fun k_ => k_ ≠ gb113)) k_ ∧ some k_ ≠ (.slice Ao20 x3_1.length co20 : Value).ownBlock) (Kd.R_types (Kd.R_apart' (HO133.out) (Kd.S_typed HO_3.out) (by decide)) BK113.out (by decide)) (fun k_ hk => ⟨hk.2, hk.1.2⟩))).1 k_ h_.symm)) ?aF ?aO ?aB ?aS ?aL ?_
             (case aP => exact k28_mkM _ _ _ (⟨y124, y131⟩ : S28) (Kd.R_mono (Kd.R_tight rfl (Kd.R_mono (ok' := fun k_ => ((fun k_ => k_ ≠ gb113)) k_ ∧ some k_ ≠ (.slice Ao20 x3_1.length co20 : Value).ownBlock) (Kd.R_types (Kd.R_apart' (HO126.out) (Kd.S_typed HO_3.out) (by decide)) BK113.out (by decide)) (fun k_ hk => ⟨hk.2, hk.1.2⟩))) (fun _ h_ => Or.inl h_)) (Kd.R_mono (Kd.R_tight rfl (Kd.R_mono (ok' := fun k_ => ((fun k_ => k_ ≠ gb113)) k_ ∧ some k_ ≠ (.slice Ao20 x3_1.length co20 : Value).ownBlock) (Kd.R_types (Kd.R_apart' (HO133.out) (Kd.S_typed HO_3.out) (by decide)) BK113.out (by decide)) (fun k_ hk => ⟨hk.2, hk.1.2⟩))) (fun _ h_ => Or.inr (h_))) (fun k_ e0_ e1_ => (HO126.out.1 k_ e0_).2 e1_.symm))
             (case aB => exact (bS1 HB.out GE113.out))
             (case aF => exact (fun k_ hk => Kd.freshB (g := gb113) (o := .cells #[.slice (some ad119) l0_0.length c0_0, .slice A0_1 l0_1.length c0_1] 28 (0, 0)) (kU BK113.out) k_ hk))
             (case aO => exact (by refine SU ?_; exact Kd.S_mono HO_3.out (fun k_ hk => ⟨hk.1.2, fun e_ => e_.elim (fun h_ => hk.1.1 h_) (fun h_ => hk.2 h_)⟩)))
             (case aS => exact (below_size (bS1 HB.out GE113.out)))
             (case aL => have := LMc18.out; omega)
             intro v135 w33 ho hb hg hat
             rw [← Ny134.out] at ho
             have n0_ := Aside0.mk (blk_grown (g := gb113) (o := .cells #[.slice (some ad119) l0_0.length c0_0, .slice A0_1 l0_1.length c0_1] 28 (0, 0)) (kU BK113.out) hg (Kd.S_away HO_3.out (fun _ hk => hk.1.2)))
             have n1_ := Aside0.mk (hb)
             have n2_ := Aside0.mk (ho)
             clear BK113 HB HO_3 HO126 HO133
             have BK113 := n0_
             have HB := n1_
             have HO136 := n2_
             clear n0_ n1_ n2_
             clear ho hb hg hat
             refine hK.out _ _ ⟨(blk_cell BK113.out 0).trans rfl, (blk_cell BK113.out 1).trans rfl⟩ (fun hHeld => ?_)
             clear hK K
             refine norm_ (a' := ?_) ?_ ?_
             rotate_left
             ·
              show Act.put _ (some 40) _ = _
              simp only [Act.put, List.setIfInBounds_toArray, List.set_cons_zero, List.set_cons_succ, i64_w, i32_w]
              rfl
             refine pure_ (i := 22) (N := some 3) (v := ?_) (a' := ?_) #[true, true, true, true, true, true, true, true, true, true, true, true, true, true, true, true, true, true, true, true, true, true, true] rfl rfl (any_of HT_.out (by kernel_rfl)) (fun _ _ _ h => h) (Or.inl ⟨by rfl, ?_⟩) ?_ ?_
             rotate_left
             ·
              intro w'
              go_simp
              with_reducible rfl
             rotate_left
             ·
              simp only [Act.put, List.setIfInBounds_toArray, List.set_cons_zero, List.set_cons_succ, i64_w, i32_w]
              rfl
             refine done_ (done_of HT_.out (by kernel_rfl)) ?_
             try go_wp2
             go_roundg k1
             case measure => have := HK1.out; omega
             case rel => exact ⟨(y134), (wrap64 (x5_1 + 1)), (by first | rfl | (simp; done) | (simp [*]; done)), H', ⟨by have := HK1.out; omega⟩, ⟨by refine SU ?_; exact HO136.out⟩, ⟨by refine kU ?_; exact BK113.out⟩, ⟨by exact bS1 HB.out GE113.out⟩⟩
            ·
             rw [if_neg c18] at H
             exact absurd H (by simp)
           ·
            rw [if_neg c17] at H
            exact absurd H (by simp)
          ·
           rw [if_neg c16] at H
           exact absurd H (by simp)
         ·
          rw [if_neg c15] at H
          exact absurd H (by simp)
        ·
         rw [if_neg c14] at H
         exact absurd H (by simp)
       ·
        rw [if_neg c12] at H
        exact absurd H (by simp)
      ·
       rw [if_neg c11] at H
       exact absurd H (by simp)
     ·
      rw [if_neg c10] at H
      have c10b0 : decide (x5_1 < (rd l0_0 0)) = false := decide_eq_false c10
      clear c10
      obtain rfl := Option.some.inj H
      have hcz34_0 : wr.cell? ⟨gb113, 0, none⟩ = some (.slice A0_0 l0_0.length c0_0) := (blk_cell BK113.out 0).trans rfl
      have hcz34_1 : wr.cell? ⟨gb113, 1, none⟩ = some (.slice A0_1 l0_1.length c0_1) := (blk_cell BK113.out 1).trans rfl
      have hfz34_0 := blk_frozen BK113.out 0
      have hfz34_1 := blk_frozen BK113.out 1
      have p119 : 0 ≤ (0 : Int) := (by omega)
      have q119 : 0 < (l0_0.length : Int) := of_decide_eq_true (by first | (with_reducible assumption) | assumption)
      obtain ⟨ad119, e119, hx119_0⟩ := Kd.at_int HR0_0.out 0 p119 q119
      cases e119
      have qi119 : (0 < l0_0.length) = True := eq_true (by omega)
      (try rw [show ((0 : Int)).toNat = 0 from rfl] at hx119_0)
      (try rw [Addr.add_zero'] at hx119_0)
      replace hx119_0 := (HB.out.cell (World.block_lt_of_cell? w _ hx119_0)).trans hx119_0
      replace p119 := eq_true p119
      replace q119 := eq_true q119
      go_wp2
      go_ret
      exact ⟨_, by first | rfl | (simp [errW_none, errW_some] <;> rfl) | (simp [*, errW_none, errW_some] <;> rfl), by refine SU ?_; exact Kd.S_mono HO_3.out (fun _ hk => trivial), by exact bS1 HB.out GE113.out⟩
    ·
     rw [if_neg c9] at H
     exact absurd H (by simp)
 ·
  rw [if_neg c2] at H
  exact absurd H (by simp)

/-! ### spec_Rows: function 6 -/
def spec_Rows.f (k : Nat) (l0_0 : List Int) (l0_1 : List Int) : Option ((List (S28))) := (spec_ArrayOk.f k l0_0 l0_1).bind fun t138 => (if t138 = true then (if (l0_0.length : Int) = 0 then (some (([] : List (S28)))) else ((spec_l3Rows.f k l0_0 l0_1).bind fun t142 => (some t142))) else (some (([] : List (S28)))))
set_option maxHeartbeats 8000000 in
set_option maxRecDepth 100000 in
theorem spec_Rows.calls (k : Nat) (A0_0 : Option Addr) (c0_0 : Nat) (l0_0 : List Int) (A0_1 : Option Addr) (c0_1 : Nat) (l0_1 : List Int) (r : List (S28)) (w : World) (hr0_0 : Kd.C (Kd.int .i64) w A0_0 l0_0.length l0_0) (hc0_0 : l0_0.length ≤ c0_0) (hr0_1 : Kd.C (Kd.int .i64) w A0_1 l0_1.length l0_1) (hc0_1 : l0_1.length ≤ c0_1) (h : spec_Rows.f k l0_0 l0_1 = some r) :
  Calls Try.prog 6 #[.agg #[.slice A0_0 l0_0.length c0_0, .slice A0_1 l0_1.length c0_1]] w fun e w' => ∃ v0_ : Value, e = .returned (v0_) ∧ Kd.S k28 28 w' w.heap.size (fun _ => True) v0_ r ∧ Below w.heap.size w w' := by
 have hu28 := Try.underlying28
 have HR0_0 := Aside0.mk hr0_0
 have HC0_0 := Aside0.mk hc0_0
 clear hr0_0 hc0_0
 have HR0_1 := Aside0.mk hr0_1
 have HC0_1 := Aside0.mk hc0_1
 clear hr0_1 hc0_1
 have HB := Aside0.mk (Below.refl w.heap.size w)
 have H : ((spec_ArrayOk.f k l0_0 l0_1).bind fun t138 => (if t138 = true then (if (l0_0.length : Int) = 0 then (some (([] : List (S28)))) else ((spec_l3Rows.f k l0_0 l0_1).bind fun t142 => (some t142))) else (some (([] : List (S28)))))) = some r := h
 clear h
 replace H := Option.bind_eq_some_iff.mp H
 obtain ⟨t138, A20, H⟩ := H
 replace H : (if t138 = true then (if (l0_0.length : Int) = 0 then (some (([] : List (S28)))) else ((spec_l3Rows.f k l0_0 l0_1).bind fun t142 => (some t142))) else (some (([] : List (S28))))) = some r := H
 have A2 := Aside0.mk A20
 clear A20
 by_cases c3 : t138 = true
 ·
  subst c3
  have H1 : (if (l0_0.length : Int) = 0 then (some (([] : List (S28)))) else ((spec_l3Rows.f k l0_0 l0_1).bind fun t142 => (some t142))) = some r := by rw [if_pos rfl] at H; exact H
  clear H
  have H := H1
  clear H1
  by_cases c4 : (l0_0.length : Int) = 0
  ·
   rw [if_pos c4] at H
   have c4b0 : ((l0_0.length : Int) == 0) = true := beq_iff_eq.mpr c4
   have c4b1 : ((l0_0.length : Int) != 0) = false := bne_eq_false_iff_eq.mpr c4
   clear c4
   obtain ⟨y139, hy139⟩ : ∃ y_ : List (S28), y_ = (([] : List (S28))) := ⟨_, rfl⟩
   replace H : (some y139) = some r := by first | (rw [hy139]; with_reducible exact H) | (have H2_ := (Option.bind_some _ _).symm.trans H; rw [hy139]; with_reducible exact H2_) | (have H2_ := (Option.bind_some _ _).symm.trans H; with_reducible exact H2_) | with_reducible exact H | (rw [hy139]; exact H) | exact H
   have Ny139 := Aside0.mk hy139
   clear hy139
   obtain rfl := Option.some.inj H
   go_enter Try.func6, Try.ntmps6
   go_wp2_with (first | ((with_reducible refine gate_dst (N := 1) rfl ?_); (try (refine gate_guard (by rfl) ?_; dsimp only)); refine box_event ?hg (N := 1) ?hd (cs := #[.slice A0_0 l0_0.length c0_0, .slice A0_1 l0_1.length c0_1]) (t := 28) ?hr ?_; (case hd => rfl); (case hg => rfl); (case hr => first | (go_simp; done) | (go_simp; rfl)); intro gb137 hg w5 hbox hb; have BK137 := Aside0.mk (hbox); have GW137 := Aside0.mk ((by rw [hg]; exact (below_size (bU HB.out)) : w.heap.size ≤ gb137)); have GE137 := Aside0.mk ((by rw [hg]; exact (below_size (bU HB.out)) : w.heap.size ≤ gb137)); replace HB := Aside0.mk (below_step (bU HB.out) hb); clear hb hbox hg; have hcz6_0 : w5.cell? ⟨gb137, 0, none⟩ = some (.slice A0_0 l0_0.length c0_0) := (blk_cell BK137.out 0).trans rfl; have hcz6_1 : w5.cell? ⟨gb137, 1, none⟩ = some (.slice A0_1 l0_1.length c0_1) := (blk_cell BK137.out 1).trans rfl; have hfz6_0 := blk_frozen BK137.out 0; have hfz6_1 := blk_frozen BK137.out 1) | ((with_reducible refine gate_callee (f := 18) rfl ?_); refine goesL_ (some 4) rfl rfl Try.func18 (by kernel_rfl) rfl #[.agg #[.slice A0_0 l0_0.length c0_0, .slice A0_1 l0_1.length c0_1]] rfl lU ?_; (with_reducible refine (spec_ArrayOk.calls k _ _ l0_0 _ _ l0_1 true _ ?side1 ?side2 ?side3 ?side4 A2.out).mono ?_); (case side1 => exact cU (Kd.C_below HR0_0.out HB.out)); (case side2 => exact HC0_0.out); (case side3 => exact cU (Kd.C_below HR0_1.out HB.out)); (case side4 => exact HC0_1.out); rintro e w7 ⟨rfl, hb⟩; refine ⟨_, rfl, ?_⟩; replace BK137 := Aside0.mk (kB BK137.out hb); replace HB := Aside0.mk (below_step (bS1 HB.out GE137.out) hb); (try clear hb); (try clear hb2); (try clear hk); (try clear hi); have hcz8_0 : w7.cell? ⟨gb137, 0, none⟩ = some (.slice A0_0 l0_0.length c0_0) := (blk_cell BK137.out 0).trans rfl; have hcz8_1 : w7.cell? ⟨gb137, 1, none⟩ = some (.slice A0_1 l0_1.length c0_1) := (blk_cell BK137.out 1).trans rfl; have hfz8_0 := blk_frozen BK137.out 0; have hfz8_1 := blk_frozen BK137.out 1) | ((with_reducible refine gate_dst (N := 12) rfl ?_); (try (refine gate_guard (by rfl) ?_; dsimp only)); refine Kd.S_lit k28 _ 28 ?hg (N := 12) ?hd (xs := ([] : List (S28))) (inner := []) (ok := fun _ => True) (okp := fun _ => True) ?hr ?hp (fun _ hk => hk) trivial (Below.refl _ _) (Nat.le_refl _) (by simp) ?_; (case hd => rfl); (case hg => rfl); (case hr => first | (go_simp; done) | (go_simp; rfl)); (case hp => exact (Reps.none _ _)); intro v140 w9 ho10 hb hg_ hnew_; clear hg_ hnew_; (first | rw [← Ny139.out] at ho10 | (simp only [Int.reduceToNat] at ho10; rw [← Ny139.out] at ho10)); have HO141 := Aside0.mk (Kd.S_lower (Kd.S_newB ho10 (g := gb137) (o := .cells #[.slice A0_0 l0_0.length c0_0, .slice A0_1 l0_1.length c0_1] 28 (0, 0)) (kU BK137.out)) (below_size (bS1 HB.out GE137.out))); replace BK137 := Aside0.mk (kB BK137.out hb); replace HB := Aside0.mk (below_step (bS1 HB.out GE137.out) hb); clear hb ho10))
   go_ret
   exact ⟨_, by first | rfl | (simp [errW_none, errW_some] <;> rfl) | (simp [*, errW_none, errW_some] <;> rfl), by refine SU ?_; exact Kd.S_mono HO141.out (fun _ hk => trivial), by exact bS1 HB.out GE137.out⟩
  ·
   rw [if_neg c4] at H
   have c4b0 : ((l0_0.length : Int) == 0) = false := beq_eq_false_iff_ne.mpr c4
   have c4b1 : ((l0_0.length : Int) != 0) = true := bne_iff_ne.mpr c4
   have c4b2 : ¬ (l0_0 = []) := fun h_ => c4 (by rw [h_]; rfl)
   replace H := Option.bind_eq_some_iff.mp H
   obtain ⟨t142, A110, H⟩ := H
   replace H : (some t142) = some r := H
   have A11 := Aside0.mk A110
   clear A110
   obtain rfl := Option.some.inj H
   go_enter Try.func6, Try.ntmps6
   go_wp2_with (first | ((with_reducible refine gate_dst (N := 1) rfl ?_); (try (refine gate_guard (by rfl) ?_; dsimp only)); refine box_event ?hg (N := 1) ?hd (cs := #[.slice A0_0 l0_0.length c0_0, .slice A0_1 l0_1.length c0_1]) (t := 28) ?hr ?_; (case hd => rfl); (case hg => rfl); (case hr => first | (go_simp; done) | (go_simp; rfl)); intro gb137 hg w12 hbox hb; have BK137 := Aside0.mk (hbox); have GW137 := Aside0.mk ((by rw [hg]; exact (below_size (bU HB.out)) : w.heap.size ≤ gb137)); have GE137 := Aside0.mk ((by rw [hg]; exact (below_size (bU HB.out)) : w.heap.size ≤ gb137)); replace HB := Aside0.mk (below_step (bU HB.out) hb); clear hb hbox hg; have hcz13_0 : w12.cell? ⟨gb137, 0, none⟩ = some (.slice A0_0 l0_0.length c0_0) := (blk_cell BK137.out 0).trans rfl; have hcz13_1 : w12.cell? ⟨gb137, 1, none⟩ = some (.slice A0_1 l0_1.length c0_1) := (blk_cell BK137.out 1).trans rfl; have hfz13_0 := blk_frozen BK137.out 0; have hfz13_1 := blk_frozen BK137.out 1) | ((with_reducible refine gate_callee (f := 18) rfl ?_); refine goesL_ (some 4) rfl rfl Try.func18 (by kernel_rfl) rfl #[.agg #[.slice A0_0 l0_0.length c0_0, .slice A0_1 l0_1.length c0_1]] rfl lU ?_; (with_reducible refine (spec_ArrayOk.calls k _ _ l0_0 _ _ l0_1 true _ ?side1 ?side2 ?side3 ?side4 A2.out).mono ?_); (case side1 => exact cU (Kd.C_below HR0_0.out HB.out)); (case side2 => exact HC0_0.out); (case side3 => exact cU (Kd.C_below HR0_1.out HB.out)); (case side4 => exact HC0_1.out); rintro e w14 ⟨rfl, hb⟩; refine ⟨_, rfl, ?_⟩; replace BK137 := Aside0.mk (kB BK137.out hb); replace HB := Aside0.mk (below_step (bS1 HB.out GE137.out) hb); (try clear hb); (try clear hb2); (try clear hk); (try clear hi); have hcz15_0 : w14.cell? ⟨gb137, 0, none⟩ = some (.slice A0_0 l0_0.length c0_0) := (blk_cell BK137.out 0).trans rfl; have hcz15_1 : w14.cell? ⟨gb137, 1, none⟩ = some (.slice A0_1 l0_1.length c0_1) := (blk_cell BK137.out 1).trans rfl; have hfz15_0 := blk_frozen BK137.out 0; have hfz15_1 := blk_frozen BK137.out 1) | ((with_reducible refine gate_callee (f := 19) rfl ?_); refine goesL_ (some 14) rfl rfl Try.func19 (by kernel_rfl) rfl #[.agg #[.slice A0_0 l0_0.length c0_0, .slice A0_1 l0_1.length c0_1]] rfl lU ?_; (with_reducible refine (spec_l3Rows.calls k _ _ l0_0 _ _ l0_1 t142 _ ?side1 ?side2 ?side3 ?side4 A11.out).mono ?_); (case side1 => exact cU (Kd.C_below HR0_0.out HB.out)); (case side2 => exact HC0_0.out); (case side3 => exact cU (Kd.C_below HR0_1.out HB.out)); (case side4 => exact HC0_1.out); rintro e w16 ⟨v143, rfl, ho0, hb⟩; refine ⟨_, rfl, ?_⟩; have HO144 := Aside0.mk (Kd.S_lower (Kd.S_newB ho0 (g := gb137) (o := .cells #[.slice A0_0 l0_0.length c0_0, .slice A0_1 l0_1.length c0_1] 28 (0, 0)) (kU BK137.out)) (below_size (bS1 HB.out GE137.out))); replace BK137 := Aside0.mk (kB BK137.out hb); replace HB := Aside0.mk (below_step (bS1 HB.out GE137.out) hb); (try clear hb); (try clear hb2); (try clear hk); (try clear hi); (try clear ho0)))
   go_ret
   exact ⟨_, by first | rfl | (simp [errW_none, errW_some] <;> rfl) | (simp [*, errW_none, errW_some] <;> rfl), by refine SU ?_; exact Kd.S_mono HO144.out (fun _ hk => trivial), by exact bS1 HB.out GE137.out⟩
 ·
  replace c3 := Bool.eq_false_iff.mpr c3
  subst c3
  have H1 : (some (([] : List (S28)))) = some r := by rw [if_neg (show ¬ (false = true) by decide)] at H; exact H
  clear H
  have H := H1
  clear H1
  obtain ⟨y145, hy145⟩ : ∃ y_ : List (S28), y_ = (([] : List (S28))) := ⟨_, rfl⟩
  replace H : (some y145) = some r := by first | (rw [hy145]; with_reducible exact H) | (have H2_ := (Option.bind_some _ _).symm.trans H; rw [hy145]; with_reducible exact H2_) | (have H2_ := (Option.bind_some _ _).symm.trans H; with_reducible exact H2_) | with_reducible exact H | (rw [hy145]; exact H) | exact H
  have Ny145 := Aside0.mk hy145
  clear hy145
  obtain rfl := Option.some.inj H
  go_enter Try.func6, Try.ntmps6
  go_wp2_with (first | ((with_reducible refine gate_dst (N := 1) rfl ?_); (try (refine gate_guard (by rfl) ?_; dsimp only)); refine box_event ?hg (N := 1) ?hd (cs := #[.slice A0_0 l0_0.length c0_0, .slice A0_1 l0_1.length c0_1]) (t := 28) ?hr ?_; (case hd => rfl); (case hg => rfl); (case hr => first | (go_simp; done) | (go_simp; rfl)); intro gb137 hg w17 hbox hb; have BK137 := Aside0.mk (hbox); have GW137 := Aside0.mk ((by rw [hg]; exact (below_size (bU HB.out)) : w.heap.size ≤ gb137)); have GE137 := Aside0.mk ((by rw [hg]; exact (below_size (bU HB.out)) : w.heap.size ≤ gb137)); replace HB := Aside0.mk (below_step (bU HB.out) hb); clear hb hbox hg; have hcz18_0 : w17.cell? ⟨gb137, 0, none⟩ = some (.slice A0_0 l0_0.length c0_0) := (blk_cell BK137.out 0).trans rfl; have hcz18_1 : w17.cell? ⟨gb137, 1, none⟩ = some (.slice A0_1 l0_1.length c0_1) := (blk_cell BK137.out 1).trans rfl; have hfz18_0 := blk_frozen BK137.out 0; have hfz18_1 := blk_frozen BK137.out 1) | ((with_reducible refine gate_callee (f := 18) rfl ?_); refine goesL_ (some 4) rfl rfl Try.func18 (by kernel_rfl) rfl #[.agg #[.slice A0_0 l0_0.length c0_0, .slice A0_1 l0_1.length c0_1]] rfl lU ?_; (with_reducible refine (spec_ArrayOk.calls k _ _ l0_0 _ _ l0_1 false _ ?side1 ?side2 ?side3 ?side4 A2.out).mono ?_); (case side1 => exact cU (Kd.C_below HR0_0.out HB.out)); (case side2 => exact HC0_0.out); (case side3 => exact cU (Kd.C_below HR0_1.out HB.out)); (case side4 => exact HC0_1.out); rintro e w19 ⟨rfl, hb⟩; refine ⟨_, rfl, ?_⟩; replace BK137 := Aside0.mk (kB BK137.out hb); replace HB := Aside0.mk (below_step (bS1 HB.out GE137.out) hb); (try clear hb); (try clear hb2); (try clear hk); (try clear hi)) | ((with_reducible refine gate_dst (N := 12) rfl ?_); (try (refine gate_guard (by rfl) ?_; dsimp only)); refine Kd.S_lit k28 _ 28 ?hg (N := 12) ?hd (xs := ([] : List (S28))) (inner := []) (ok := fun _ => True) (okp := fun _ => True) ?hr ?hp (fun _ hk => hk) trivial (Below.refl _ _) (Nat.le_refl _) (by simp) ?_; (case hd => rfl); (case hg => rfl); (case hr => first | (go_simp; done) | (go_simp; rfl)); (case hp => exact (Reps.none _ _)); intro v146 w20 ho21 hb hg_ hnew_; clear hg_ hnew_; (first | rw [← Ny145.out] at ho21 | (simp only [Int.reduceToNat] at ho21; rw [← Ny145.out] at ho21)); have HO147 := Aside0.mk (Kd.S_lower (Kd.S_newB ho21 (g := gb137) (o := .cells #[.slice A0_0 l0_0.length c0_0, .slice A0_1 l0_1.length c0_1] 28 (0, 0)) (kU BK137.out)) (below_size (bS1 HB.out GE137.out))); replace BK137 := Aside0.mk (kB BK137.out hb); replace HB := Aside0.mk (below_step (bS1 HB.out GE137.out) hb); clear hb ho21))
  go_ret
  exact ⟨_, by first | rfl | (simp [errW_none, errW_some] <;> rfl) | (simp [*, errW_none, errW_some] <;> rfl), by refine SU ?_; exact Kd.S_mono HO147.out (fun _ hk => trivial), by exact bS1 HB.out GE137.out⟩

end Go.Proofs.Ytnpcjppcoejgmaa.PFnExactRows
