/- The walk of what a law reaches, for the law's row: written by a program of this session; it has no condition of its own. -/
import Derived.Test.YtcnbajdnlkcjjaaPFnExactRotatex0
import Derived.Test.YtcnbajdnlkcjjaaPFnExactRotatex5
namespace Go.Proofs.Ytcnbajdnlkcjjaa.PFnExactRotate
open Go.RowKit Go.Proofs.YtcnbajdnlkcjjaaW.PrintWords Go.Proofs.YtcnbajdnlkcjjaaW.PrintLast Go.Proofs.YtcnbajdnlkcjjaaW.PrintMore
attribute [local go_sem] max2_int min2_int max_two min_two max_three min_three max_four min_four   -- for this text's walks alone
set_option linter.unusedVariables false
set_option linter.unusedSimpArgs false

/-! ### impl_Rows: function 32 -/
mutual
def impl_Rows.j0 : Nat → Bool → List Int → List Int → Option ((List (S26)))
  | 0, _, _, _ => none
  | k + 1, x14, x248000, x248001 => if x14 = true then (some ([] : List (S26))) else (if 1 ≤ (x248000.length : Int) then ((impl_SizeOf.f k (x248000.drop 1)).bind fun t250 => (impl_Rows.l0 k t250 ([] : List (S26)) 0 x248000 x248001)) else (none))
def impl_Rows.l0 : Nat → Int → List (S26) → Int → List Int → List Int → Option ((List (S26)))
  | 0, _, _, _, _, _ => none
  | k + 1, x3, x4, x5, x248000, x248001 => if 0 < (x248000.length : Int) then (if x5 < (rd x248000 0) then (if 1 ≤ (x248000.length : Int) then (if 0 ≤ (wrap64 (x5 * x3)) then (if (wrap64 (x5 * x3)) ≤ (wrap64 ((wrap64 (x5 + 1)) * x3)) then (if (wrap64 ((wrap64 (x5 + 1)) * x3)) ≤ (x248001.length : Int) then ((impl_copyArray.f (x248000.drop 1) ((x248001.take ((wrap64 ((wrap64 (x5 + 1)) * x3)) : Int).toNat).drop ((wrap64 (x5 * x3)) : Int).toNat)).bind fun bt254 => (if x4.length < 2932031007402 then (impl_Rows.l0 k x3 (x4 ++ [(⟨bt254.1, bt254.2⟩ : S26)]) (wrap64 (x5 + 1)) x248000 x248001) else (none))) else (none)) else (none)) else (none)) else (none)) else (some x4)) else (none)
end
def impl_Rows.f (k : Nat) (l0_0 : List Int) (l0_1 : List Int) : Option ((List (S26))) := (impl_ArrayOk.f k l0_0 l0_1).bind fun t248 => (if t248 = true then (impl_Rows.j0 k ((l0_0.length : Int) == 0) l0_0 l0_1) else (impl_Rows.j0 k true l0_0 l0_1))
theorem impl_Rows.mono_l : ∀ k, (∀ y0 y1 y2, LeO (impl_Rows.j0 k y0 y1 y2) (impl_Rows.j0 (k + 1) y0 y1 y2)) ∧ (∀ y0 y1 y2 y3 y4, LeO (impl_Rows.l0 k y0 y1 y2 y3 y4) (impl_Rows.l0 (k + 1) y0 y1 y2 y3 y4))
  | 0 => ⟨fun _ _ _ r h => by simp [impl_Rows.j0] at h, fun _ _ _ _ _ r h => by simp [impl_Rows.l0] at h⟩
  | k + 1 => by
    obtain ⟨ih0, ih1⟩ := impl_Rows.mono_l k
    refine ⟨?_, ?_⟩
    · intro y0 y1 y2
      unfold impl_Rows.j0
      repeat' first
      | (with_reducible exact ih0 _ _ _)
      | (with_reducible exact ih1 _ _ _ _ _)
      | (with_reducible exact impl_ArrayOk.mono _ _ _)
      | (with_reducible exact impl_SizeOf.mono _ _)
      | (with_reducible exact LeO.refl _)
      | (with_reducible exact LeO.none _)
      | (with_reducible refine LeO.ite ?_ ?_)
      | (with_reducible refine LeO.bind ?_ (fun _ => ?_))
      | exact ih0 _ _ _
      | exact ih1 _ _ _ _ _
      | exact impl_ArrayOk.mono _ _ _
      | exact impl_SizeOf.mono _ _
      | exact LeO.none _
      | refine LeO.ite ?_ ?_
      | refine LeO.bind ?_ (fun _ => ?_)
    · intro y0 y1 y2 y3 y4
      unfold impl_Rows.l0
      repeat' first
      | (with_reducible exact ih0 _ _ _)
      | (with_reducible exact ih1 _ _ _ _ _)
      | (with_reducible exact impl_ArrayOk.mono _ _ _)
      | (with_reducible exact impl_SizeOf.mono _ _)
      | (with_reducible exact LeO.refl _)
      | (with_reducible exact LeO.none _)
      | (with_reducible refine LeO.ite ?_ ?_)
      | (with_reducible refine LeO.bind ?_ (fun _ => ?_))
      | exact ih0 _ _ _
      | exact ih1 _ _ _ _ _
      | exact impl_ArrayOk.mono _ _ _
      | exact impl_SizeOf.mono _ _
      | exact LeO.none _
      | refine LeO.ite ?_ ?_
      | refine LeO.bind ?_ (fun _ => ?_)
theorem impl_Rows.mono : ∀ a0 a1 k, LeO (impl_Rows.f k a0 a1) (impl_Rows.f (k + 1) a0 a1) := by
  intro a0 a1 k
  obtain ⟨ih0, ih1⟩ := impl_Rows.mono_l k
  unfold impl_Rows.f
  repeat' first
      | (with_reducible exact ih0 _ _ _)
      | (with_reducible exact ih1 _ _ _ _ _)
      | (with_reducible exact impl_ArrayOk.mono _ _ _)
      | (with_reducible exact impl_SizeOf.mono _ _)
      | (with_reducible exact LeO.refl _)
      | (with_reducible exact LeO.none _)
      | (with_reducible refine LeO.ite ?_ ?_)
      | (with_reducible refine LeO.bind ?_ (fun _ => ?_))
      | exact ih0 _ _ _
      | exact ih1 _ _ _ _ _
      | exact impl_ArrayOk.mono _ _ _
      | exact impl_SizeOf.mono _ _
      | exact LeO.none _
      | refine LeO.ite ?_ ?_
      | refine LeO.bind ?_ (fun _ => ?_)
def impl_Rows.T8 : Bool × List (List Nat × List Nat) := (true, [([], []), ([], []), ([1], [1]), ([2], [2]), ([], []), ([4], [4]), ([], []), ([], []), ([6, 7], [6, 7]), ([], []), ([9], [9]), ([], []), ([10, 11], [10, 11]), ([5, 8, 12], [5, 8, 12]), ([3, 13], [3, 13]), ([14], [14]), ([15], [15]), ([0, 16, 15], [0, 16]), ([17, 17, 0, 1, 2, 3, 4, 5, 6, 7, 8, 9, 10, 11, 12, 13, 14, 15, 16, 17], [0, 17])])
def impl_Rows.B8 : List Nat := [0, 0, 2, 6, 0, 16, 0, 0, 192, 0, 512, 0, 3584, 8176, 16382, 32766, 65534, 131071, 262143]
theorem impl_Rows.tab8 : rtab .any (opsOf Try.f32 8) = impl_Rows.T8 := by kernel_rfl
theorem impl_Rows.bits8 : waitsOk impl_Rows.T8.2 impl_Rows.B8 = true := by kernel_rfl
set_option maxHeartbeats 8000000 in
set_option maxRecDepth 100000 in
theorem impl_Rows.calls (k : Nat) (A0_0 : Option Addr) (c0_0 : Nat) (l0_0 : List Int) (A0_1 : Option Addr) (c0_1 : Nat) (l0_1 : List Int) (r : List (S26)) (w : World) (hr0_0 : Kd.C (Kd.int .i64) w A0_0 l0_0.length l0_0) (hc0_0 : l0_0.length ≤ c0_0) (hr0_1 : Kd.C (Kd.int .i64) w A0_1 l0_1.length l0_1) (hc0_1 : l0_1.length ≤ c0_1) (h : impl_Rows.f k l0_0 l0_1 = some r) :
    Calls Try.prog 32 #[.agg #[.slice A0_0 l0_0.length c0_0, .slice A0_1 l0_1.length c0_1]] w fun e w' => ∃ v0_ : Value, e = .returned (v0_) ∧ Kd.S k26 26 w' w.heap.size (fun _ => True) v0_ r ∧ Below w.heap.size w w' := by
  have hu26 := Try.underlying26
  have HR0_0 := Aside0.mk hr0_0
  have HC0_0 := Aside0.mk hc0_0
  clear hr0_0 hc0_0
  have HR0_1 := Aside0.mk hr0_1
  have HC0_1 := Aside0.mk hc0_1
  clear hr0_1 hc0_1
  have HB := Aside0.mk (Below.refl w.heap.size w)
  have H : ((impl_ArrayOk.f k l0_0 l0_1).bind fun t248 => (if t248 = true then (impl_Rows.j0 k ((l0_0.length : Int) == 0) l0_0 l0_1) else (impl_Rows.j0 k true l0_0 l0_1))) = some r := h
  clear h
  have HC2 := Aside0.mk H
  clear H
  go_enter Try.func32, Try.ntmps32
  go_upto_region 1 with (first | ((with_reducible refine gate_dst (N := 1) rfl ?_); (try (refine gate_guard (by rfl) ?_; dsimp only)); refine box_event ?hg (N := 1) ?hd (cs := #[.slice A0_0 l0_0.length c0_0, .slice A0_1 l0_1.length c0_1]) (t := 26) ?hr ?_; (case hd => rfl); (case hg => rfl); (case hr => first | (go_simp; done) | (go_simp; rfl)); intro gb247 hg w3 hbox hb; have n0_ := Aside0.mk (below_step (by repeat (first | (with_reducible first | exact HB.out | apply below_alloc | apply pw_below_drewN | apply below_drew1) | exact HB.out)) hb); have n1_ := Aside0.mk (hbox); have n2_ := Aside0.mk ((by rw [hg]; exact (below_size (by repeat (first | (with_reducible first | exact HB.out | apply below_alloc | apply pw_below_drewN | apply below_drew1) | exact HB.out))) : w.heap.size ≤ gb247)); have n3_ := Aside0.mk ((by rw [hg]; exact (below_size (by repeat (first | (with_reducible first | exact HB.out | apply below_alloc | apply pw_below_drewN | apply below_drew1) | exact HB.out))) : w.heap.size ≤ gb247)); clear HB; have HB := n0_; have BK247 := n1_; have GW247 := n2_; have GE247 := n3_; clear n0_ n1_ n2_ n3_; clear hb hbox hg))
  (try simp only [Act.put, List.setIfInBounds_toArray, List.set_cons_zero, List.set_cons_succ])
  go_cut [14] (fun v14 wc => ∃ (kq : Nat) (x14_1 : Bool), v14 = .bool x14_1 ∧ Aside0 (impl_Rows.j0 kq x14_1 l0_0 l0_1 = some r) ∧ Aside0 (kq ≤ k) ∧ Aside0 (wc.heap[gb247]? = some (.cells #[(.slice A0_0 l0_0.length c0_0), (.slice A0_1 l0_1.length c0_1)] 26 (0, 0))) ∧ Aside0 (Below w.heap.size w wc))
  case first =>
    have H := HC2.out
    clear HC2
    replace H := Option.bind_eq_some_iff.mp H
    obtain ⟨t248, A40, H⟩ := H
    replace H : (if t248 = true then (impl_Rows.j0 k ((l0_0.length : Int) == 0) l0_0 l0_1) else (impl_Rows.j0 k true l0_0 l0_1)) = some r := H
    have A4 := Aside0.mk A40
    clear A40
    by_cases c5 : t248 = true
    · subst c5
      have H1 : (impl_Rows.j0 k ((l0_0.length : Int) == 0) l0_0 l0_1) = some r := by rw [if_pos rfl] at H; exact H
      clear H
      have H := H1
      clear H1
      have H' := Aside0.mk H
      clear H
      have hcz6_0 : w3.cell? ⟨gb247, 0, none⟩ = some (.slice A0_0 l0_0.length c0_0) := (blk_cell BK247.out 0).trans rfl
      have hcz6_1 : w3.cell? ⟨gb247, 1, none⟩ = some (.slice A0_1 l0_1.length c0_1) := (blk_cell BK247.out 1).trans rfl
      have hfz6_0 := blk_frozen BK247.out 0
      have hfz6_1 := blk_frozen BK247.out 1
      go_wp2_with (first | ((with_reducible refine gate_callee (f := 36) rfl ?_); refine goesL_ (some 7) rfl rfl Try.func36 (by kernel_rfl) rfl #[.agg #[.slice A0_0 l0_0.length c0_0, .slice A0_1 l0_1.length c0_1]] rfl (by (try simp only [List.map_toArray, List.map_cons, List.map_nil]); first | done | rfl | (simp only [List.length_drop, List.length_take]; rfl)) ?_; (with_reducible refine (impl_ArrayOk.calls k _ _ l0_0 _ _ l0_1 true _ ?side1 ?side2 ?side3 ?side4 A4.out).mono ?_); (case side1 => repeat (first | exact (Kd.C_below HR0_0.out HB.out) | (with_reducible refine Kd.C_alloc ?_ _) | (with_reducible refine Kd.C_drewN ?_ _) | (with_reducible refine Kd.C_drew ?_))); (case side2 => exact HC0_0.out); (case side3 => repeat (first | exact (Kd.C_below HR0_1.out HB.out) | (with_reducible refine Kd.C_alloc ?_ _) | (with_reducible refine Kd.C_drewN ?_ _) | (with_reducible refine Kd.C_drew ?_))); (case side4 => exact HC0_1.out); rintro e w7 ⟨rfl, hb⟩; refine ⟨_, rfl, ?_⟩; have n0_ := Aside0.mk (blk_below (g := gb247) (o := .cells #[.slice A0_0 l0_0.length c0_0, .slice A0_1 l0_1.length c0_1] 26 (0, 0)) (by (with_reducible repeat (first | refine blk_drewN ?_ _ | refine blk_drew ?_ | refine blk_alloc ?_ _)); exact BK247.out) hb); have n1_ := Aside0.mk (below_step (by repeat (first | (with_reducible first | exact HB.out | apply below_alloc | apply pw_below_drewN | apply below_drew1 | refine below_set ?_ GE247.out) | exact HB.out)) hb); clear BK247; clear HB; have BK247 := n0_; have HB := n1_; clear n0_ n1_; (try clear hb); (try clear hb2); (try clear hk); (try clear hi); have hcz8_0 : w7.cell? ⟨gb247, 0, none⟩ = some (.slice A0_0 l0_0.length c0_0) := (blk_cell BK247.out 0).trans rfl; have hcz8_1 : w7.cell? ⟨gb247, 1, none⟩ = some (.slice A0_1 l0_1.length c0_1) := (blk_cell BK247.out 1).trans rfl; have hfz8_0 := blk_frozen BK247.out 0; have hfz8_1 := blk_frozen BK247.out 1))
      go_meet
      case rel => exact ⟨_, (((l0_0.length : Int) == 0)), (by first | rfl | (simp; done) | (simp [*]; done)), H', ⟨by first | omega | exact Nat.le_refl _⟩, ⟨by (with_reducible repeat (first | refine blk_drewN ?_ _ | refine blk_drew ?_ | refine blk_alloc ?_ _)); exact BK247.out⟩, ⟨by repeat (first | (with_reducible first | exact HB.out | apply below_alloc | apply pw_below_drewN | apply below_drew1 | refine below_set ?_ GE247.out) | exact HB.out)⟩⟩
    · replace c5 := Bool.eq_false_iff.mpr c5
      subst c5
      have H1 : (impl_Rows.j0 k true l0_0 l0_1) = some r := by rw [if_neg (show ¬ (false = true) by decide)] at H; exact H
      clear H
      have H := H1
      clear H1
      have H' := Aside0.mk H
      clear H
      have hcz9_0 : w3.cell? ⟨gb247, 0, none⟩ = some (.slice A0_0 l0_0.length c0_0) := (blk_cell BK247.out 0).trans rfl
      have hcz9_1 : w3.cell? ⟨gb247, 1, none⟩ = some (.slice A0_1 l0_1.length c0_1) := (blk_cell BK247.out 1).trans rfl
      have hfz9_0 := blk_frozen BK247.out 0
      have hfz9_1 := blk_frozen BK247.out 1
      go_wp2_with (first | ((with_reducible refine gate_callee (f := 36) rfl ?_); refine goesL_ (some 7) rfl rfl Try.func36 (by kernel_rfl) rfl #[.agg #[.slice A0_0 l0_0.length c0_0, .slice A0_1 l0_1.length c0_1]] rfl (by (try simp only [List.map_toArray, List.map_cons, List.map_nil]); first | done | rfl | (simp only [List.length_drop, List.length_take]; rfl)) ?_; (with_reducible refine (impl_ArrayOk.calls k _ _ l0_0 _ _ l0_1 false _ ?side1 ?side2 ?side3 ?side4 A4.out).mono ?_); (case side1 => repeat (first | exact (Kd.C_below HR0_0.out HB.out) | (with_reducible refine Kd.C_alloc ?_ _) | (with_reducible refine Kd.C_drewN ?_ _) | (with_reducible refine Kd.C_drew ?_))); (case side2 => exact HC0_0.out); (case side3 => repeat (first | exact (Kd.C_below HR0_1.out HB.out) | (with_reducible refine Kd.C_alloc ?_ _) | (with_reducible refine Kd.C_drewN ?_ _) | (with_reducible refine Kd.C_drew ?_))); (case side4 => exact HC0_1.out); rintro e w10 ⟨rfl, hb⟩; refine ⟨_, rfl, ?_⟩; have n0_ := Aside0.mk (blk_below (g := gb247) (o := .cells #[.slice A0_0 l0_0.length c0_0, .slice A0_1 l0_1.length c0_1] 26 (0, 0)) (by (with_reducible repeat (first | refine blk_drewN ?_ _ | refine blk_drew ?_ | refine blk_alloc ?_ _)); exact BK247.out) hb); have n1_ := Aside0.mk (below_step (by repeat (first | (with_reducible first | exact HB.out | apply below_alloc | apply pw_below_drewN | apply below_drew1 | refine below_set ?_ GE247.out) | exact HB.out)) hb); clear BK247; clear HB; have BK247 := n0_; have HB := n1_; clear n0_ n1_; (try clear hb); (try clear hb2); (try clear hk); (try clear hi)))
      go_meet
      case rel => exact ⟨_, (true), (by first | rfl | (simp; done) | (simp [*]; done)), H', ⟨by first | omega | exact Nat.le_refl _⟩, ⟨by (with_reducible repeat (first | refine blk_drewN ?_ _ | refine blk_drew ?_ | refine blk_alloc ?_ _)); exact BK247.out⟩, ⟨by repeat (first | (with_reducible first | exact HB.out | apply below_alloc | apply pw_below_drewN | apply below_drew1 | refine below_set ?_ GE247.out) | exact HB.out)⟩⟩
  case rest =>
    clear HC2
    try clear p2
    try clear c3
    try clear c5
    try clear hcz6_0
    try clear hcz6_1
    try clear hcz8_0
    try clear hcz8_1
    try clear hcz9_0
    try clear hcz9_1
    try clear hfz6_0
    try clear hfz6_1
    try clear hfz8_0
    try clear hfz8_1
    try clear hfz9_0
    try clear hfz9_1
    obtain ⟨kq, x14_1, rfl, HA, HJ1, BK247, HB⟩ := hcut
    cases kq with
    | zero => exact absurd HA.out (by simp [impl_Rows.j0])
    | succ kj1 =>
      have H := HA.out
      clear HA
      simp only [impl_Rows.j0] at H
      by_cases c11 : x14_1 = true
      · subst c11
        have H1 : (some ([] : List (S26))) = some r := by rw [if_pos rfl] at H; exact H
        clear H
        have H := H1
        clear H1
        obtain rfl := Option.some.inj H
        go_wp2
        go_ret
        exact ⟨_, by first | rfl | (simp [errW_none, errW_some] <;> rfl) | (simp [*, errW_none, errW_some] <;> rfl), by first | exact Kd.S_nil _ _ _ _ _ | exact Kd.N_nil _ _ _ _ _ | exact Kd.V_nil _ _ _ _ _ | exact Kd.Q_nil _ _ _ _ _ | exact Kd.R_nil _ _ _ _ _, by repeat (first | (with_reducible first | exact HB.out | apply below_alloc | apply pw_below_drewN | apply below_drew1 | refine below_set ?_ GE247.out) | exact HB.out)⟩
      · replace c11 := Bool.eq_false_iff.mpr c11
        subst c11
        have H1 : (if 1 ≤ (l0_0.length : Int) then ((impl_SizeOf.f kj1 (l0_0.drop 1)).bind fun t250 => (impl_Rows.l0 kj1 t250 ([] : List (S26)) 0 l0_0 l0_1)) else (none)) = some r := by rw [if_neg (show ¬ (false = true) by decide)] at H; exact H
        clear H
        have H := H1
        clear H1
        by_cases c12 : 1 ≤ (l0_0.length : Int)
        · rw [if_pos c12] at H
          have c12b0 := eq_true c12
          have c12b1 : decide (1 ≤ (l0_0.length : Int)) = true := decide_eq_true c12
          clear c12
          replace H := Option.bind_eq_some_iff.mp H
          obtain ⟨t250, A130, H⟩ := H
          replace H : (impl_Rows.l0 kj1 t250 ([] : List (S26)) 0 l0_0 l0_1) = some r := H
          have A13 := Aside0.mk A130
          clear A130
          have H' := Aside0.mk H
          clear H
          have hcz14_0 : wc.cell? ⟨gb247, 0, none⟩ = some (.slice A0_0 l0_0.length c0_0) := (blk_cell BK247.out 0).trans rfl
          have hcz14_1 : wc.cell? ⟨gb247, 1, none⟩ = some (.slice A0_1 l0_1.length c0_1) := (blk_cell BK247.out 1).trans rfl
          have hfz14_0 := blk_frozen BK247.out 0
          have hfz14_1 := blk_frozen BK247.out 1
          obtain ⟨i015, hi015, _, hsz15, _⟩ := info_parts info3
          obtain ⟨A15, hcut15, hA15, hC15⟩ := print_drop_of (P := Try.prog) (Value.int .i64) 0 22 3 .i64 Try.underlying22 hi015 hsz15 A0_0 c0_0 l0_0 1 (by omega) (of_decide_eq_true (by first | (with_reducible assumption) | assumption)) HC0_0.out
          have HR249 := Aside0.mk (Kd.C_of_reads (h1 := fun _ => rfl) (hA15 _ (Kd.reads_of_C HR0_0.out)))
          have HC249 := Aside0.mk hC15
          clear hA15 hC15 hi015 hsz15
          go_wp2_with (first | ((with_reducible refine gate_callee (f := 74) rfl ?_); refine goesL_ (some 18) rfl rfl Try.func74 (by kernel_rfl) rfl #[.slice A15 (l0_0.drop 1).length (c0_0 - 1)] rfl (by (try simp only [List.map_toArray, List.map_cons, List.map_nil]); first | done | (rw [show (l0_0.drop 1).length = (l0_0.length - 1) from List.length_drop] <;> rfl) | rfl | (simp only [List.length_drop, List.length_take]; rfl)) ?_; (with_reducible refine (impl_SizeOf.calls kj1 _ _ (l0_0.drop 1) t250 _ ?side1 ?side2 A13.out).mono ?_); (case side1 => repeat (first | exact (Kd.C_below HR249.out HB.out) | (with_reducible refine Kd.C_alloc ?_ _) | (with_reducible refine Kd.C_drewN ?_ _) | (with_reducible refine Kd.C_drew ?_))); (case side2 => exact HC249.out); rintro e w' ⟨rfl, ⟨nd, rfl⟩⟩; refine ⟨_, rfl, ?_⟩))
          go_loopg [4, 5] kj1 (fun kq v4 v5 w' => ∃ (x4_2 : List (S26)) (x5_2 : Int), v5 = .int .i64 x5_2 ∧ Aside0 (impl_Rows.l0 kq t250 x4_2 x5_2 l0_0 l0_1 = some r) ∧ Aside0 (kq ≤ kj1) ∧ Aside0 (Kd.S k26 26 w' w.heap.size (fun k_ => k_ ≠ gb247) v4 x4_2) ∧ Aside0 (w'.heap[gb247]? = some (.cells #[(.slice A0_0 l0_0.length c0_0), (.slice A0_1 l0_1.length c0_1)] 26 (0, 0))) ∧ Aside0 (Below w.heap.size w w'))
          case atStart => exact ⟨(([] : List (S26))), (0), (by first | rfl | (simp; done) | (simp [*]; done)), H', ⟨Nat.le_refl _⟩, ⟨by first | exact Kd.S_nil _ _ _ _ _ | exact Kd.N_nil _ _ _ _ _ | exact Kd.V_nil _ _ _ _ _ | exact Kd.Q_nil _ _ _ _ _ | exact Kd.R_nil _ _ _ _ _⟩, ⟨by (with_reducible repeat (first | refine blk_drewN ?_ _ | refine blk_drew ?_ | refine blk_alloc ?_ _)); exact BK247.out⟩, ⟨by repeat (first | (with_reducible first | exact HB.out | apply below_alloc | apply pw_below_drewN | apply below_drew1 | refine below_set ?_ GE247.out) | exact HB.out)⟩⟩
          case round =>
            clear H'
            try clear c1
            try clear p2
            try clear c3
            try clear c5
            try clear c7
            try clear c11
            try clear c12
            try clear c12b0
            try clear c12b1
            try clear hcz14_0
            try clear hcz14_1
            try clear hcz6_0
            try clear hcz6_1
            try clear hcz8_0
            try clear hcz8_1
            try clear hcz9_0
            try clear hcz9_1
            try clear hfz14_0
            try clear hfz14_1
            try clear hfz6_0
            try clear hfz6_1
            try clear hfz8_0
            try clear hfz8_1
            try clear hfz9_0
            try clear hfz9_1
            try clear p2
            obtain ⟨x4_2, x5_2, rfl, HA, HK2, HO_4, BK247, HB⟩ := hrel
            cases gk with
            | zero => exact absurd HA.out (by simp [impl_Rows.l0])
            | succ k2 =>
              have H := HA.out
              clear HA
              simp only [impl_Rows.l0] at H
              by_cases c16 : 0 < (l0_0.length : Int)
              · rw [if_pos c16] at H
                have c16b0 : decide (0 < (l0_0.length : Int)) = true := decide_eq_true c16
                have c16b1 : decide (0 < l0_0.length) = true := decide_eq_true (by omega)
                clear c16
                by_cases c17 : x5_2 < (rd l0_0 0)
                · rw [if_pos c17] at H
                  have c17b0 : decide (x5_2 < (rd l0_0 0)) = true := decide_eq_true c17
                  clear c17
                  by_cases c18 : 1 ≤ (l0_0.length : Int)
                  · rw [if_pos c18] at H
                    have c18b0 := eq_true c18
                    have c18b1 : decide (1 ≤ (l0_0.length : Int)) = true := decide_eq_true c18
                    clear c18
                    obtain ⟨ji19, hji19⟩ : ∃ j_ : Int, (wrap64 (x5_2 * t250)) = j_ := ⟨_, rfl⟩
                    replace H : (if 0 ≤ (ji19) then (if (ji19) ≤ (wrap64 ((wrap64 (x5_2 + 1)) * t250)) then (if (wrap64 ((wrap64 (x5_2 + 1)) * t250)) ≤ (l0_1.length : Int) then ((impl_copyArray.f (l0_0.drop 1) ((l0_1.take ((wrap64 ((wrap64 (x5_2 + 1)) * t250)) : Int).toNat).drop ((ji19) : Int).toNat)).bind fun bt254 => (if x4_2.length < 2932031007402 then (impl_Rows.l0 k2 t250 (x4_2 ++ [(⟨bt254.1, bt254.2⟩ : S26)]) (wrap64 (x5_2 + 1)) l0_0 l0_1) else (none))) else (none)) else (none)) else (none)) = some r := by first | (rw [hji19] at H; exact H) | (simp only [hji19] at H ⊢; exact H)
                    have hji19w : (IntKind.i64.wrap (x5_2 * t250)) = ji19 := (i64_w _).trans hji19
                    by_cases c20 : 0 ≤ (ji19)
                    · rw [if_pos c20] at H
                      have c20b0 := eq_true c20
                      have c20b1 : decide (0 ≤ (ji19)) = true := decide_eq_true c20
                      clear c20
                      by_cases c21 : (ji19) ≤ (wrap64 ((wrap64 (x5_2 + 1)) * t250))
                      · rw [if_pos c21] at H
                        have c21b0 := eq_true c21
                        have c21b1 : decide ((ji19) ≤ (wrap64 ((wrap64 (x5_2 + 1)) * t250))) = true := decide_eq_true c21
                        by_cases c22 : (wrap64 ((wrap64 (x5_2 + 1)) * t250)) ≤ (l0_1.length : Int)
                        · rw [if_pos c22] at H
                          have c22b0 := eq_true c22
                          have c22b1 : decide ((wrap64 ((wrap64 (x5_2 + 1)) * t250)) ≤ (l0_1.length : Int)) = true := decide_eq_true c22
                          replace H := Option.bind_eq_some_iff.mp H
                          obtain ⟨⟨t254, t257⟩, A230, H⟩ := H
                          replace H : (if x4_2.length < 2932031007402 then (impl_Rows.l0 k2 t250 (x4_2 ++ [(⟨t254, t257⟩ : S26)]) (wrap64 (x5_2 + 1)) l0_0 l0_1) else (none)) = some r := H
                          have A23 := Aside0.mk A230
                          clear A230
                          by_cases c24 : x4_2.length < 2932031007402
                          · rw [if_pos c24] at H
                            have LMc24 := Aside0.mk c24
                            clear c24
                            obtain ⟨y260, hy260⟩ : ∃ y_ : List (S26), y_ = (x4_2 ++ [(⟨t254, t257⟩ : S26)]) := ⟨_, rfl⟩
                            replace H : (impl_Rows.l0 k2 t250 y260 (wrap64 (x5_2 + 1)) l0_0 l0_1) = some r := by first | (rw [hy260]; with_reducible exact H) | (have H2_ := (Option.bind_some _ _).symm.trans H; rw [hy260]; with_reducible exact H2_) | (have H2_ := (Option.bind_some _ _).symm.trans H; with_reducible exact H2_) | with_reducible exact H | (rw [hy260]; exact H) | exact H
                            have Ny260 := Aside0.mk hy260
                            clear hy260
                            have H' := Aside0.mk H
                            clear H
                            have hcz25_0 : wr.cell? ⟨gb247, 0, none⟩ = some (.slice A0_0 l0_0.length c0_0) := (blk_cell BK247.out 0).trans rfl
                            have hcz25_1 : wr.cell? ⟨gb247, 1, none⟩ = some (.slice A0_1 l0_1.length c0_1) := (blk_cell BK247.out 1).trans rfl
                            have hfz25_0 := blk_frozen BK247.out 0
                            have hfz25_1 := blk_frozen BK247.out 1
                            have p251 : 0 ≤ (0 : Int) := (by omega)
                            have q251 : 0 < (l0_0.length : Int) := of_decide_eq_true (by first | (with_reducible assumption) | assumption)
                            obtain ⟨ad251, e251, hx251_0⟩ := Kd.at_int HR0_0.out 0 p251 q251
                            cases e251
                            have qi251 : (0 < l0_0.length) = True := eq_true (by omega)
                            (try rw [show ((0 : Int)).toNat = 0 from rfl] at hx251_0)
                            (try rw [Addr.add_zero'] at hx251_0)
                            replace hx251_0 := (HB.out.cell (World.block_lt_of_cell? w _ hx251_0)).trans hx251_0
                            replace p251 := eq_true p251
                            replace q251 := eq_true q251
                            try go_wp2
                            have n0_ := Aside0.mk (Kd.S_drew HO_4.out)
                            have n1_ := Aside0.mk (blk_drew BK247.out)
                            have n2_ := Aside0.mk (below_drew1 HB.out)
                            clear HO_4
                            clear BK247
                            clear HB
                            have HO_4 := n0_
                            have BK247 := n1_
                            have HB := n2_
                            clear n0_ n1_ n2_
                            obtain ⟨i027, hi027, _, hsz27, _⟩ := info_parts info3
                            (try clear hcut15)
                            obtain ⟨A27, hcut27, hA27, hC27⟩ := print_drop_of (P := Try.prog) (Value.int .i64) 0 22 3 .i64 Try.underlying22 hi027 hsz27 (some ad251) c0_0 l0_0 1 (by omega) (of_decide_eq_true (by first | (with_reducible assumption) | assumption)) HC0_0.out
                            have HR252 := Aside0.mk (Kd.C_of_reads (h1 := fun _ => rfl) (hA27 _ (Kd.reads_of_C HR0_0.out)))
                            have HC252 := Aside0.mk hC27
                            clear hA27 hC27 hi027 hsz27
                            obtain ⟨i028, hi028, _, hsz28, _⟩ := info_parts info3
                            obtain ⟨A28, hcut28, hA28, hC28⟩ := print_mid_of (P := Try.prog) (Value.int .i64) 0 22 3 .i64 .i64 Try.underlying22 hi028 hsz28 A0_1 c0_1 l0_1 (ji19) (wrap64 ((wrap64 (x5_2 + 1)) * t250)) (of_decide_eq_true (by first | (with_reducible assumption) | assumption)) (by first | omega | exact of_decide_eq_true (by first | (with_reducible assumption) | assumption)) (of_decide_eq_true (by first | (with_reducible assumption) | assumption)) HC0_1.out
                            have HR253 := Aside0.mk (Kd.C_of_reads (h1 := fun _ => rfl) (hA28 _ (Kd.reads_of_C HR0_1.out)))
                            have HC253 := Aside0.mk hC28
                            clear hA28 hC28 hi028 hsz28
                            refine start_ (n := 19) (S := fun w' => w'.cell? ⟨gb247, 0, none⟩ = some (.slice (some ad251) l0_0.length c0_0) ∧ w'.cell? ⟨gb247, 1, none⟩ = some (.slice A0_1 l0_1.length c0_1)) (ds := []) #[false, false, false, false, false, false, false, false, false, false, false, false, false, false, false, false, false, false, false] (by kernel_rfl) rfl rfl ⟨(blk_cell BK247.out 0).trans rfl, (blk_cell BK247.out 1).trans rfl⟩ (fun hHeld => ?_); refine with_tabW impl_Rows.tab8 impl_Rows.bits8 (fun HT_ HW_ => ?_)
                            generalize wr.drew = w26 at HO_4 BK247 HB HR252 HR253 hHeld ⊢
                            refine pure_ (i := 0) (N := some 27) (v := ?_) (a' := ?_) #[true, false, false, false, false, false, false, false, false, false, false, false, false, false, false, false, false, false, false] rfl rfl (any_of HT_.out (by kernel_rfl)) (fun _ _ _ h => h) (Or.inl ⟨by rfl, ?_⟩) ?_ ?_
                            rotate_left
                            · intro w'
                              go_simp
                              with_reducible rfl
                            rotate_left
                            · simp only [Act.put, List.setIfInBounds_toArray, List.set_cons_zero, List.set_cons_succ, i64_w, i32_w]
                              rfl
                            refine pure_ (i := 1) (N := some 28) (v := ?_) (a' := ?_) #[true, true, false, false, false, false, false, false, false, false, false, false, false, false, false, false, false, false, false] rfl rfl (any_of HT_.out (by kernel_rfl)) (fun _ _ _ h => h) (Or.inl ⟨by rfl, ?_⟩) ?_ ?_
                            rotate_left
                            · intro w'
                              go_simp
                              with_reducible rfl
                            rotate_left
                            · simp only [Act.put, List.setIfInBounds_toArray, List.set_cons_zero, List.set_cons_succ, i64_w, i32_w]
                              rfl
                            refine pure_ (i := 4) (N := some 31) (v := ?_) (a' := ?_) #[true, true, false, false, true, false, false, false, false, false, false, false, false, false, false, false, false, false, false] rfl rfl (any_of HT_.out (by kernel_rfl)) (fun _ _ _ h => h) (Or.inl ⟨by rfl, ?_⟩) ?_ ?_
                            rotate_left
                            · intro w'
                              go_simp
                              with_reducible rfl
                            rotate_left
                            · simp only [Act.put, List.setIfInBounds_toArray, List.set_cons_zero, List.set_cons_succ, i64_w, i32_w]
                              rfl
                            refine pure_ (i := 6) (N := some 33) (v := ?_) (a' := ?_) #[true, true, false, false, true, false, true, false, false, false, false, false, false, false, false, false, false, false, false] rfl rfl (any_of HT_.out (by kernel_rfl)) (fun _ _ _ h => h) (Or.inl ⟨by rfl, ?_⟩) ?_ ?_
                            rotate_left
                            · intro w'
                              go_simp
                              with_reducible rfl
                            rotate_left
                            · simp only [Act.put, List.setIfInBounds_toArray, List.set_cons_zero, List.set_cons_succ, i64_w, i32_w]
                              rfl
                            refine pure_ (i := 7) (N := some 34) (v := ?_) (a' := ?_) #[true, true, false, false, true, false, true, true, false, false, false, false, false, false, false, false, false, false, false] rfl rfl (any_of HT_.out (by kernel_rfl)) (fun _ _ _ h => h) (Or.inl ⟨by rfl, ?_⟩) ?_ ?_
                            rotate_left
                            · intro w'
                              go_simp
                              with_reducible rfl
                            rotate_left
                            · simp only [Act.put, List.setIfInBounds_toArray, List.set_cons_zero, List.set_cons_succ, i64_w, i32_w]
                              rfl
                            refine pure_ (i := 8) (N := some 35) (v := ?_) (a' := ?_) #[true, true, false, false, true, false, true, true, true, false, false, false, false, false, false, false, false, false, false] rfl rfl (any_of HT_.out (by kernel_rfl)) (fun _ _ _ h => h) (Or.inl ⟨by rfl, ?_⟩) ?_ ?_
                            rotate_left
                            · intro w'
                              go_simp
                              with_reducible rfl
                            rotate_left
                            · simp only [Act.put, List.setIfInBounds_toArray, List.set_cons_zero, List.set_cons_succ, i64_w, i32_w]
                              rfl
                            refine pure_ (i := 9) (N := some 36) (v := ?_) (a' := ?_) #[true, true, false, false, true, false, true, true, true, true, false, false, false, false, false, false, false, false, false] rfl rfl (any_of HT_.out (by kernel_rfl)) (fun _ _ _ h => h) (Or.inl ⟨by rfl, ?_⟩) ?_ ?_
                            rotate_left
                            · intro w'
                              go_simp
                              with_reducible rfl
                            rotate_left
                            · simp only [Act.put, List.setIfInBounds_toArray, List.set_cons_zero, List.set_cons_succ, i64_w, i32_w]
                              rfl
                            refine pure_ (i := 10) (N := some 37) (v := ?_) (a' := ?_) #[true, true, false, false, true, false, true, true, true, true, true, false, false, false, false, false, false, false, false] rfl rfl (any_of HT_.out (by kernel_rfl)) (fun _ _ _ h => h) (Or.inl ⟨by rfl, ?_⟩) ?_ ?_
                            rotate_left
                            · intro w'
                              go_simp
                              with_reducible rfl
                            rotate_left
                            · simp only [Act.put, List.setIfInBounds_toArray, List.set_cons_zero, List.set_cons_succ, i64_w, i32_w]
                              rfl
                            refine pure_ (i := 11) (N := some 38) (v := ?_) (a' := ?_) #[true, true, false, false, true, false, true, true, true, true, true, true, false, false, false, false, false, false, false] rfl rfl (any_of HT_.out (by kernel_rfl)) (fun _ _ _ h => h) (Or.inl ⟨by rfl, ?_⟩) ?_ ?_
                            rotate_left
                            · intro w'
                              go_simp
                              with_reducible rfl
                            rotate_left
                            · simp only [Act.put, List.setIfInBounds_toArray, List.set_cons_zero, List.set_cons_succ, i64_w, i32_w]
                              rfl
                            refine pure_ (i := 12) (N := some 39) (v := ?_) (a' := ?_) #[true, true, false, false, true, false, true, true, true, true, true, true, true, false, false, false, false, false, false] rfl rfl (any_of HT_.out (by kernel_rfl)) (fun _ _ _ h => h) (Or.inl ⟨by rfl, ?_⟩) ?_ ?_
                            rotate_left
                            · intro w'
                              go_simp
                              with_reducible rfl
                            rotate_left
                            · simp only [Act.put, List.setIfInBounds_toArray, List.set_cons_zero, List.set_cons_succ, i64_w, i32_w]
                              rfl
                            refine take_ (i := 2) (N := some 29) (v := ?_) (a' := ?_) #[true, true, true, false, true, false, true, true, true, true, true, true, true, false, false, false, false, false, false] rfl rfl (take_ofW HT_.out HW_.out (by kernel_rfl)) (fun _ _ _ h => h) (Or.inl ⟨by rfl, ?_⟩) hHeld ?_ ?_
                            rotate_left
                            · rintro w' ⟨s0, s1⟩
                              go_simp
                              with_reducible rfl
                            rotate_left
                            · simp only [Act.put, List.setIfInBounds_toArray, List.set_cons_zero, List.set_cons_succ, i64_w, i32_w]
                              rfl
                            refine pure_ (i := 3) (N := some 30) (v := ?_) (a' := ?_) #[true, true, true, true, true, false, true, true, true, true, true, true, true, false, false, false, false, false, false] rfl rfl (any_of HT_.out (by kernel_rfl)) (fun _ _ _ h => h) (Or.inl ⟨by rfl, ?_⟩) ?_ ?_
                            rotate_left
                            · intro w'
                              go_simp
                              with_reducible rfl
                            rotate_left
                            · simp only [Act.put, List.setIfInBounds_toArray, List.set_cons_zero, List.set_cons_succ, i64_w, i32_w]
                              rfl
                            refine take_ (i := 5) (N := some 32) (v := ?_) (a' := ?_) #[true, true, true, true, true, true, true, true, true, true, true, true, true, false, false, false, false, false, false] rfl rfl (take_ofW HT_.out HW_.out (by kernel_rfl)) (fun _ _ _ h => h) (Or.inl ⟨by rfl, ?_⟩) hHeld ?_ ?_
                            rotate_left
                            · rintro w' ⟨s0, s1⟩
                              go_simp
                              with_reducible rfl
                            rotate_left
                            · simp only [Act.put, List.setIfInBounds_toArray, List.set_cons_zero, List.set_cons_succ, i64_w, i32_w]
                              rfl
                            refine pure_ (i := 13) (N := some 40) (v := ?_) (a' := ?_) #[true, true, true, true, true, true, true, true, true, true, true, true, true, true, false, false, false, false, false] rfl rfl (any_of HT_.out (by kernel_rfl)) (fun _ _ _ h => h) (Or.inl ⟨by rfl, ?_⟩) ?_ ?_
                            rotate_left
                            · intro w'
                              go_simp
                              with_reducible rfl
                            rotate_left
                            · simp only [Act.put, List.setIfInBounds_toArray, List.set_cons_zero, List.set_cons_succ, i64_w, i32_w]
                              rfl
                            refine pure_ (i := 14) (N := some 41) (v := ?_) (a' := ?_) #[true, true, true, true, true, true, true, true, true, true, true, true, true, true, true, false, false, false, false] rfl rfl (any_of HT_.out (by kernel_rfl)) (fun _ _ _ h => h) (Or.inl ⟨by rfl, ?_⟩) ?_ ?_
                            rotate_left
                            · intro w'
                              go_simp
                              with_reducible rfl
                            rotate_left
                            · simp only [Act.put, List.setIfInBounds_toArray, List.set_cons_zero, List.set_cons_succ, i64_w, i32_w]
                              rfl
                            refine one_ (i := 15) (N := some 42) #[true, true, true, true, true, true, true, true, true, true, true, true, true, true, true, true, false, false, false] rfl rfl (one_of HT_.out (by kernel_rfl)) (by decide) (fun K hK => ?_)
                            refine goes_ Try.func61 (by kernel_rfl) rfl #[.agg #[.slice A27 (l0_0.drop 1).length (c0_0 - 1), .slice A28 ((l0_1.take ((wrap64 ((wrap64 (x5_2 + 1)) * t250)) : Int).toNat).drop ((ji19) : Int).toNat).length (c0_1 - (ji19).toNat)]] (by rfl) rfl rfl (by (try simp only [List.map_toArray, List.map_cons, List.map_nil]); first | done | (rw [show (l0_0.drop 1).length = (l0_0.length - 1) from List.length_drop] <;> rfl) | (rw [show ((l0_1.take ((wrap64 ((wrap64 (x5_2 + 1)) * t250)) : Int).toNat).drop ((ji19) : Int).toNat).length = ((wrap64 ((wrap64 (x5_2 + 1)) * t250)).toNat - (ji19).toNat) from (by rw [List.length_drop, List.length_take]; have h_ : ((wrap64 ((wrap64 (x5_2 + 1)) * t250)) : Int) ≤ (l0_1.length : Int) := of_decide_eq_true (by first | (with_reducible assumption) | assumption); omega)] <;> rfl) | (simp only [hji19]; rfl) | rfl | (simp only [List.length_drop, List.length_take]; rfl) | (rw [show (l0_0.drop 1).length = (l0_0.length - 1) from List.length_drop, show ((l0_1.take ((wrap64 ((wrap64 (x5_2 + 1)) * t250)) : Int).toNat).drop ((ji19) : Int).toNat).length = ((wrap64 ((wrap64 (x5_2 + 1)) * t250)).toNat - (ji19).toNat) from (by rw [List.length_drop, List.length_take]; have h_ : ((wrap64 ((wrap64 (x5_2 + 1)) * t250)) : Int) ≤ (l0_1.length : Int) := of_decide_eq_true (by first | (with_reducible assumption) | assumption); omega)] <;> rfl)) ?_
                            with_reducible refine (impl_copyArray.calls _ _ (l0_0.drop 1) _ _ ((l0_1.take ((wrap64 ((wrap64 (x5_2 + 1)) * t250)) : Int).toNat).drop ((ji19) : Int).toNat) t254 t257 _ ?side1 ?side2 ?side3 ?side4 A23.out).mono ?_
                            (case side1 => repeat (first | exact (Kd.C_below HR252.out HB.out) | (with_reducible refine Kd.C_alloc ?_ _) | (with_reducible refine Kd.C_drewN ?_ _) | (with_reducible refine Kd.C_drew ?_)))
                            (case side2 => exact HC252.out)
                            (case side3 => repeat (first | exact (Kd.C_below HR253.out HB.out) | (with_reducible refine Kd.C_alloc ?_ _) | (with_reducible refine Kd.C_drewN ?_ _) | (with_reducible refine Kd.C_drew ?_)))
                            (case side4 => exact HC253.out)
                            rintro e w29 ⟨v255, v258, rfl, ho0, ho1, hb⟩
                            refine ⟨_, rfl, ?_⟩
                            have n0_ := Aside0.mk (Kd.S_mono (Kd.S_told (Kd.S_told (Kd.S_old (by (with_reducible repeat (first | apply Kd.S_alloc | apply Kd.S_drewN | apply Kd.S_drew)); exact HO_4.out) hb) (Kd.R_base ho0)) (Kd.R_base ho1)) (fun _ h_ => h_.1))
                            have n1_ := Aside0.mk (Kd.R_lower ho0 (below_size (by repeat (first | (with_reducible first | exact HB.out | apply below_alloc | apply pw_below_drewN | apply below_drew1 | refine below_set ?_ GE247.out) | exact HB.out))))
                            have n2_ := Aside0.mk (Kd.R_lower ho1 (below_size (by repeat (first | (with_reducible first | exact HB.out | apply below_alloc | apply pw_below_drewN | apply below_drew1 | refine below_set ?_ GE247.out) | exact HB.out))))
                            have n3_ := Aside0.mk (blk_below (g := gb247) (o := .cells #[.slice (some ad251) l0_0.length c0_0, .slice A0_1 l0_1.length c0_1] 26 (0, 0)) (by (with_reducible repeat (first | refine blk_drewN ?_ _ | refine blk_drew ?_ | refine blk_alloc ?_ _)); exact BK247.out) hb)
                            have n4_ := Aside0.mk (below_step (by repeat (first | (with_reducible first | exact HB.out | apply below_alloc | apply pw_below_drewN | apply below_drew1 | refine below_set ?_ GE247.out) | exact HB.out)) hb)
                            clear HO_4
                            clear BK247
                            clear HB
                            have HO_4 := n0_
                            have HO256 := n1_
                            have HO259 := n2_
                            have BK247 := n3_
                            have HB := n4_
                            clear n0_ n1_ n2_ n3_ n4_
                            (try clear hb)
                            (try clear hb2)
                            (try clear hk)
                            (try clear hi)
                            (try clear ho0)
                            (try clear ho1)
                            obtain ⟨Ao31, co31, eo31⟩ := Kd.R_slice HO256.out
                            (first | subst eo31 | (injection eo31 with f1_ f2_ f3_; have f4_ := f1_.symm; have f5_ := f3_.symm; clear f1_ f2_ f3_; subst f4_; subst f5_))
                            obtain ⟨Ao32, co32, eo32⟩ := Kd.R_slice HO259.out
                            (first | subst eo32 | (injection eo32 with f1_ f2_ f3_; have f4_ := f1_.symm; have f5_ := f3_.symm; clear f1_ f2_ f3_; subst f4_; subst f5_))
                            refine hK.out _ _ ⟨(blk_cell BK247.out 0).trans rfl, (blk_cell BK247.out 1).trans rfl⟩ (fun hHeld => ?_)
                            clear hK K
                            refine norm_ (a' := ?_) ?_ ?_
                            rotate_left
                            · show Act.put _ (some 42) _ = _
                              simp only [Act.put, List.setIfInBounds_toArray, List.set_cons_zero, List.set_cons_succ, i64_w, i32_w]
                              rfl
                            refine one_ (i := 16) (N := some 43) #[true, true, true, true, true, true, true, true, true, true, true, true, true, true, true, true, true, false, false] rfl rfl (one_of HT_.out (by kernel_rfl)) (by decide) (fun K hK => ?_)
                            refine value_ (w1 := ?_) (v := ?_) (by rfl) rfl ?_ ?_
                            rotate_left 2
                            · go_simp
                              constructor
                              · rfl
                              · rfl
                            refine hK.out _ _ ⟨(blk_cell (blk_alloc BK247.out _) 0).trans rfl, (blk_cell (blk_alloc BK247.out _) 1).trans rfl⟩ (fun hHeld => ?_)
                            clear hK K
                            refine norm_ (a' := ?_) ?_ ?_
                            rotate_left
                            · show Act.put _ (some 43) _ = _
                              simp only [Act.put, List.setIfInBounds_toArray, List.set_cons_zero, List.set_cons_succ, i64_w, i32_w]
                              rfl
                            refine one_ (i := 17) (N := some 44) #[true, true, true, true, true, true, true, true, true, true, true, true, true, true, true, true, true, true, false] rfl rfl (one_of HT_.out (by kernel_rfl)) (by decide) (fun K hK => ?_)
                            refine Kd.S_append_step k26 (w0 := w) w.heap.size (by rfl) (.tmp 27) (.tmp 43) 38 26 (.agg #[(.slice none 0 0), (.slice none 0 0)]) 48 rfl Try.underlying38 info26 rfl (by decide) (by omega) u4 x4_2 (⟨t254, t257⟩ : S26) [.slice Ao31 t254.length co31, .slice Ao32 t257.length co32] (fun k_ => k_ ≠ gb247) (fun k_ => some k_ = (.slice Ao31 t254.length co31 : Value).ownBlock ∨ some k_ = (.slice Ao32 t257.length co32 : Value).ownBlock) rfl rfl ?aP (fun k_ hk_ => hk_.elim (fun h_ => ((Kd.R_mono (ok' := fun k_ => ((fun k_ => k_ ≠ gb247)) k_ ∧ some k_ ≠ (u4 : Value).ownBlock) (Kd.R_types (Kd.R_apart' (HO256.out) (Kd.S_typed HO_4.out) (by decide)) BK247.out (by decide)) (fun k_ hk => ⟨hk.2, hk.1.2⟩))).1 k_ h_.symm) (fun h_ => ((Kd.R_mono (ok' := fun k_ => ((fun k_ => k_ ≠ gb247)) k_ ∧ some k_ ≠ (u4 : Value).ownBlock) (Kd.R_types (Kd.R_apart' (HO259.out) (Kd.S_typed HO_4.out) (by decide)) BK247.out (by decide)) (fun k_ hk => ⟨hk.2, hk.1.2⟩))).1 k_ h_.symm)) ?aF ?aO ?aB ?aS ?aL ?_
                            (case aP => exact k26_mkM _ _ _ (⟨t254, t257⟩ : S26) (Kd.R_mono (Kd.R_tight rfl (Kd.R_mono (ok' := fun k_ => ((fun k_ => k_ ≠ gb247)) k_ ∧ some k_ ≠ (u4 : Value).ownBlock) (Kd.R_types (Kd.R_apart' (HO256.out) (Kd.S_typed HO_4.out) (by decide)) BK247.out (by decide)) (fun k_ hk => ⟨hk.2, hk.1.2⟩))) (fun _ h_ => Or.inl h_)) (Kd.R_mono (Kd.R_tight rfl (Kd.R_mono (ok' := fun k_ => ((fun k_ => k_ ≠ gb247)) k_ ∧ some k_ ≠ (u4 : Value).ownBlock) (Kd.R_types (Kd.R_apart' (HO259.out) (Kd.S_typed HO_4.out) (by decide)) BK247.out (by decide)) (fun k_ hk => ⟨hk.2, hk.1.2⟩))) (fun _ h_ => Or.inr (h_))))
                            (case aB => exact (by repeat (first | (with_reducible first | exact HB.out | apply below_alloc | apply pw_below_drewN | apply below_drew1 | refine below_set ?_ GE247.out) | exact HB.out)))
                            (case aF => exact (fun k_ hk => Kd.freshB (g := gb247) (o := .cells #[.slice (some ad251) l0_0.length c0_0, .slice A0_1 l0_1.length c0_1] 26 (0, 0)) (by (with_reducible repeat (first | refine blk_drewN ?_ _ | refine blk_drew ?_ | refine blk_alloc ?_ _)); exact BK247.out) k_ hk))
                            (case aO => exact (by (with_reducible repeat (first | apply Kd.S_alloc | apply Kd.S_drewN | apply Kd.S_drew)); exact Kd.S_mono HO_4.out (fun k_ hk => ⟨hk.1.1, fun e_ => e_.elim (fun h_ => hk.1.2 h_) (fun h_ => hk.2 h_)⟩)))
                            (case aS => exact (below_size (by repeat (first | (with_reducible first | exact HB.out | apply below_alloc | apply pw_below_drewN | apply below_drew1 | refine below_set ?_ GE247.out) | exact HB.out))))
                            (case aL => have := LMc24.out; omega)
                            intro v261 w30 ho hb hg hat
                            rw [← Ny260.out] at ho
                            have n0_ := Aside0.mk (blk_grown (g := gb247) (o := .cells #[.slice (some ad251) l0_0.length c0_0, .slice A0_1 l0_1.length c0_1] 26 (0, 0)) (by (with_reducible repeat (first | refine blk_drewN ?_ _ | refine blk_drew ?_ | refine blk_alloc ?_ _)); exact BK247.out) hg (Kd.S_away HO_4.out (fun _ hk => hk.1.1)))
                            have n1_ := Aside0.mk (hb)
                            have n2_ := Aside0.mk (ho)
                            clear BK247
                            clear HB
                            clear HO_4
                            clear HO256
                            clear HO259
                            have BK247 := n0_
                            have HB := n1_
                            have HO262 := n2_
                            clear n0_ n1_ n2_
                            clear ho hb hg hat
                            refine hK.out _ _ ⟨(blk_cell BK247.out 0).trans rfl, (blk_cell BK247.out 1).trans rfl⟩ (fun hHeld => ?_)
                            clear hK K
                            refine norm_ (a' := ?_) ?_ ?_
                            rotate_left
                            · show Act.put _ (some 44) _ = _
                              simp only [Act.put, List.setIfInBounds_toArray, List.set_cons_zero, List.set_cons_succ, i64_w, i32_w]
                              rfl
                            refine pure_ (i := 18) (N := some 4) (v := ?_) (a' := ?_) #[true, true, true, true, true, true, true, true, true, true, true, true, true, true, true, true, true, true, true] rfl rfl (any_of HT_.out (by kernel_rfl)) (fun _ _ _ h => h) (Or.inl ⟨by rfl, ?_⟩) ?_ ?_
                            rotate_left
                            · intro w'
                              go_simp
                              with_reducible rfl
                            rotate_left
                            · simp only [Act.put, List.setIfInBounds_toArray, List.set_cons_zero, List.set_cons_succ, i64_w, i32_w]
                              rfl
                            refine done_ (done_of HT_.out (by kernel_rfl)) ?_
                            try go_wp2
                            go_roundg k2
                            case measure => have := HJ1.out; have := HK2.out; omega
                            case rel => exact ⟨(y260), (wrap64 (x5_2 + 1)), (by first | rfl | (simp; done) | (simp [*]; done)), H', ⟨by have := HJ1.out; have := HK2.out; omega⟩, ⟨by (with_reducible repeat (first | apply Kd.S_alloc | apply Kd.S_drewN | apply Kd.S_drew)); exact HO262.out⟩, ⟨by (with_reducible repeat (first | refine blk_drewN ?_ _ | refine blk_drew ?_ | refine blk_alloc ?_ _)); exact BK247.out⟩, ⟨by repeat (first | (with_reducible first | exact HB.out | apply below_alloc | apply pw_below_drewN | apply below_drew1 | refine below_set ?_ GE247.out) | exact HB.out)⟩⟩
                          · rw [if_neg c24] at H
                            exact absurd H (by simp)
                        · rw [if_neg c22] at H
                          exact absurd H (by simp)
                      · rw [if_neg c21] at H
                        exact absurd H (by simp)
                    · rw [if_neg c20] at H
                      exact absurd H (by simp)
                  · rw [if_neg c18] at H
                    exact absurd H (by simp)
                · rw [if_neg c17] at H
                  have c17b0 : decide (x5_2 < (rd l0_0 0)) = false := decide_eq_false c17
                  clear c17
                  obtain rfl := Option.some.inj H
                  have hcz33_0 : wr.cell? ⟨gb247, 0, none⟩ = some (.slice A0_0 l0_0.length c0_0) := (blk_cell BK247.out 0).trans rfl
                  have hcz33_1 : wr.cell? ⟨gb247, 1, none⟩ = some (.slice A0_1 l0_1.length c0_1) := (blk_cell BK247.out 1).trans rfl
                  have hfz33_0 := blk_frozen BK247.out 0
                  have hfz33_1 := blk_frozen BK247.out 1
                  have p251 : 0 ≤ (0 : Int) := (by omega)
                  have q251 : 0 < (l0_0.length : Int) := of_decide_eq_true (by first | (with_reducible assumption) | assumption)
                  obtain ⟨ad251, e251, hx251_0⟩ := Kd.at_int HR0_0.out 0 p251 q251
                  cases e251
                  have qi251 : (0 < l0_0.length) = True := eq_true (by omega)
                  (try rw [show ((0 : Int)).toNat = 0 from rfl] at hx251_0)
                  (try rw [Addr.add_zero'] at hx251_0)
                  replace hx251_0 := (HB.out.cell (World.block_lt_of_cell? w _ hx251_0)).trans hx251_0
                  replace p251 := eq_true p251
                  replace q251 := eq_true q251
                  go_wp2
                  go_ret
                  exact ⟨_, by first | rfl | (simp [errW_none, errW_some] <;> rfl) | (simp [*, errW_none, errW_some] <;> rfl), by (with_reducible repeat (first | apply Kd.S_alloc | apply Kd.S_drewN | apply Kd.S_drew)); exact Kd.S_mono HO_4.out (fun _ hk => trivial), by repeat (first | (with_reducible first | exact HB.out | apply below_alloc | apply pw_below_drewN | apply below_drew1 | refine below_set ?_ GE247.out) | exact HB.out)⟩
              · rw [if_neg c16] at H
                exact absurd H (by simp)
        · rw [if_neg c12] at H
          exact absurd H (by simp)

/-! ### impl_joined: function 78 -/
def impl_joined.l0 : Nat → List (S26) → Int → Int → List Int → List Int → Option (List Int × List Int × Int)
  | 0, _, _, _, _, _ => none
  | k + 1, x15, x16, x17, x271000, x271001 => if x17 < x16 then (if 0 ≤ x17 then (if x17 < (x15.length : Int) then (if x271001.length + ((rd_T26 x15 x17).f1).length < 17592186044416 then (impl_joined.l0 k x15 x16 (wrap64 (x17 + 1)) x271000 (x271001 ++ ((rd_T26 x15 x17).f1))) else (none)) else (none)) else (none)) else ((impl_ArrayOk.f k x271000 x271001).bind fun t276 => (if t276 = true then (some (x271000, x271001, 0)) else (some (([] : List Int), ([] : List Int), 6))))
def impl_joined.f (k : Nat) (l0 : List (S26)) (l1 : List Int) : Option (List Int × List Int × Int) := (some (([(l0.length : Int)] : List Int) : List Int)).bind fun y264 => (if y264.length + l1.length < 17592186044416 then (impl_joined.l0 k l0 (l0.length : Int) 0 (y264 ++ l1) ([] : List Int)) else (none))
theorem impl_joined.mono_l : ∀ k, (∀ y0 y1 y2 y3 y4, LeO (impl_joined.l0 k y0 y1 y2 y3 y4) (impl_joined.l0 (k + 1) y0 y1 y2 y3 y4))
  | 0 => fun _ _ _ _ _ r h => by simp [impl_joined.l0] at h
  | k + 1 => by
    have ih0 := impl_joined.mono_l k
    · intro y0 y1 y2 y3 y4
      unfold impl_joined.l0
      repeat' first
      | (with_reducible exact ih0 _ _ _ _ _)
      | (with_reducible exact impl_ArrayOk.mono _ _ _)
      | (with_reducible exact LeO.refl _)
      | (with_reducible exact LeO.none _)
      | (with_reducible refine LeO.ite ?_ ?_)
      | (with_reducible refine LeO.bind ?_ (fun _ => ?_))
      | exact ih0 _ _ _ _ _
      | exact impl_ArrayOk.mono _ _ _
      | exact LeO.none _
      | refine LeO.ite ?_ ?_
      | refine LeO.bind ?_ (fun _ => ?_)
theorem impl_joined.mono : ∀ a0 a1 k, LeO (impl_joined.f k a0 a1) (impl_joined.f (k + 1) a0 a1) := by
  intro a0 a1 k
  have ih0 := impl_joined.mono_l k
  unfold impl_joined.f
  repeat' first
      | (with_reducible exact ih0 _ _ _ _ _)
      | (with_reducible exact impl_ArrayOk.mono _ _ _)
      | (with_reducible exact LeO.refl _)
      | (with_reducible exact LeO.none _)
      | (with_reducible refine LeO.ite ?_ ?_)
      | (with_reducible refine LeO.bind ?_ (fun _ => ?_))
      | exact ih0 _ _ _ _ _
      | exact impl_ArrayOk.mono _ _ _
      | exact LeO.none _
      | refine LeO.ite ?_ ?_
      | refine LeO.bind ?_ (fun _ => ?_)
set_option maxHeartbeats 8000000 in
set_option maxRecDepth 100000 in
theorem impl_joined.calls (k : Nat) (A0 : Option Addr) (c0 : Nat) (l0 : List (S26)) (A1 : Option Addr) (c1 : Nat) (l1 : List Int) (r1 : List Int) (r2 : List Int) (r3 : Int) (w : World) (hr0 : Kd.C k26 w A0 l0.length l0) (hc0 : l0.length ≤ c0) (hr1 : Kd.C (Kd.int .i64) w A1 l1.length l1) (hc1 : l1.length ≤ c1) (h : impl_joined.f k l0 l1 = some (r1, r2, r3)) :
    Calls Try.prog 78 #[.slice A0 l0.length c0, .slice A1 l1.length c1] w fun e w' => ∃ v0_ v1_ : Value, e = .returned (.tuple #[.agg #[v0_, v1_], .int .i64 r3]) ∧ Kd.R (Kd.int .i64) 3 w' w.heap.size (fun k_ => some k_ ≠ (v1_ : Value).ownBlock) v0_ r1 ∧ Kd.R (Kd.int .i64) 3 w' w.heap.size (fun k_ => some k_ ≠ (v0_ : Value).ownBlock) v1_ r2 ∧ Below w.heap.size w w' := by
  have hu26 := Try.underlying26
  have HR0 := Aside0.mk hr0
  have HC0 := Aside0.mk hc0
  clear hr0 hc0
  have HR1 := Aside0.mk hr1
  have HC1 := Aside0.mk hc1
  clear hr1 hc1
  have HB := Aside0.mk (Below.refl w.heap.size w)
  have H : ((some (([(l0.length : Int)] : List Int) : List Int)).bind fun y264 => (if y264.length + l1.length < 17592186044416 then (impl_joined.l0 k l0 (l0.length : Int) 0 (y264 ++ l1) ([] : List Int)) else (none))) = some (r1, r2, r3) := h
  clear h
  obtain ⟨y264, hy264⟩ : ∃ y_ : List Int, y_ = (([(l0.length : Int)] : List Int)) := ⟨_, rfl⟩
  replace H : (if y264.length + l1.length < 17592186044416 then (impl_joined.l0 k l0 (l0.length : Int) 0 (y264 ++ l1) ([] : List Int)) else (none)) = some (r1, r2, r3) := by first | (rw [hy264]; with_reducible exact H) | (have H2_ := (Option.bind_some _ _).symm.trans H; rw [hy264]; with_reducible exact H2_) | (have H2_ := (Option.bind_some _ _).symm.trans H; with_reducible exact H2_) | with_reducible exact H | (rw [hy264]; exact H) | exact H
  have Ny264 := Aside0.mk hy264
  clear hy264
  by_cases c3 : y264.length + l1.length < 17592186044416
  · rw [if_pos c3] at H
    have LMc3 := Aside0.mk c3
    clear c3
    obtain ⟨y267, hy267⟩ : ∃ y_ : List Int, y_ = (y264 ++ l1) := ⟨_, rfl⟩
    replace H : (impl_joined.l0 k l0 (l0.length : Int) 0 y267 ([] : List Int)) = some (r1, r2, r3) := by first | (rw [hy267]; with_reducible exact H) | (have H2_ := (Option.bind_some _ _).symm.trans H; rw [hy267]; with_reducible exact H2_) | (have H2_ := (Option.bind_some _ _).symm.trans H; with_reducible exact H2_) | with_reducible exact H | (rw [hy267]; exact H) | exact H
    have Ny267 := Aside0.mk hy267
    clear hy267
    have H' := Aside0.mk H
    clear H
    go_enter Try.func78, Try.ntmps78
    go_wp2_with (first | ((with_reducible refine gate_dst (N := 4) rfl ?_); refine box_event ?hg (N := 4) ?hd (cs := #[.slice none 0 0, .slice none 0 0]) (t := 26) ?hr ?_; (case hd => rfl); (case hg => rfl); (case hr => first | (go_simp; done) | (go_simp; rfl)); intro gb263 hg w4 hbox hb; have n0_ := Aside0.mk (below_step (by repeat (first | (with_reducible first | exact HB.out | apply below_alloc | apply pw_below_drewN | apply below_drew1) | exact HB.out)) hb); have n1_ := Aside0.mk (hbox); have n2_ := Aside0.mk ((by rw [hg]; exact (below_size (by repeat (first | (with_reducible first | exact HB.out | apply below_alloc | apply pw_below_drewN | apply below_drew1) | exact HB.out))) : w.heap.size ≤ gb263)); have n3_ := Aside0.mk ((by rw [hg]; exact (below_size (by repeat (first | (with_reducible first | exact HB.out | apply below_alloc | apply pw_below_drewN | apply below_drew1) | exact HB.out))) : w.heap.size ≤ gb263)); clear HB; have HB := n0_; have BK263 := n1_; have GW263 := n2_; have GE263 := n3_; clear n0_ n1_ n2_ n3_; clear hb hbox hg) | ((with_reducible refine gate_dst (N := 11) rfl ?_); refine Kd.R_lit (Kd.int .i64) _ 3 ?hg (N := 11) ?hd (xs := ([(l0.length : Int)] : List Int)) (inner := [.int .i64 (l0.length : Int)]) (ok := fun _ => True) (okp := fun _ => True) ?hr ?hp (fun _ hk => hk) trivial (Below.refl _ _) (Nat.le_refl _) (by simp) ?_; (case hd => rfl); (case hg => rfl); (case hr => first | (go_simp; done) | (go_simp; rfl)); (case hp => exact (Reps.one (show Kd.M (Kd.int .i64) _ _ _ (l0.length : Int) [.int .i64 (l0.length : Int)] from rfl) (Reps.none _ _))); intro v265 w5 ho6 hb hg_ hnew_; clear hg_ hnew_; (first | rw [← Ny264.out] at ho6 | (simp only [Int.reduceToNat] at ho6; rw [← Ny264.out] at ho6)); have n0_ := Aside0.mk (Kd.R_lower ho6 (below_size (by repeat (first | (with_reducible first | exact HB.out | apply below_alloc | apply pw_below_drewN | apply below_drew1 | refine below_set ?_ GE263.out) | exact HB.out)))); have n1_ := Aside0.mk (blk_below (g := gb263) (o := .cells #[.slice none 0 0, .slice none 0 0] 26 (0, 0)) (by (with_reducible repeat (first | refine blk_drewN ?_ _ | refine blk_drew ?_ | refine blk_alloc ?_ _)); exact BK263.out) hb); have n2_ := Aside0.mk (below_step (by repeat (first | (with_reducible first | exact HB.out | apply below_alloc | apply pw_below_drewN | apply below_drew1 | refine below_set ?_ GE263.out) | exact HB.out)) hb); clear BK263; clear HB; have HO266 := n0_; have BK263 := n1_; have HB := n2_; clear n0_ n1_ n2_; clear hb ho6) | ((with_reducible refine gate_builtin (b := .append) (xs := #[.tmp 11, .tmp 12]) rfl ?_); at_builtin; refine Kd.R_append_rows (Kd.int .i64) (w0 := w) w.heap.size rfl (.tmp 11) (.tmp 12) 22 3 (.int .i64 0) 8 rfl Try.underlying22 info3 rfl (by decide) (by omega) v265 y264 l1 _ _ _ (fun _ => True) (fun _ => False) rfl rfl ?aO ?aR (fun _ _ h => h) (fun _ h => h.elim) ?aF ?aB ?aS ?aL ?_; (case aR => repeat (first | exact (Kd.C_below HR1.out HB.out) | (with_reducible refine Kd.C_alloc ?_ _) | (with_reducible refine Kd.C_drewN ?_ _) | (with_reducible refine Kd.C_drew ?_))); (case aB => exact (by repeat (first | (with_reducible first | exact HB.out | apply below_alloc | apply pw_below_drewN | apply below_drew1 | refine below_set ?_ GE263.out) | exact HB.out))); (case aF => exact (fun _ _ => trivial)); (case aO => exact (by (with_reducible repeat (first | apply Kd.R_alloc | apply Kd.R_drewN | apply Kd.R_drew)); exact HO266.out)); (case aS => exact (below_size (by repeat (first | (with_reducible first | exact HB.out | apply below_alloc | apply pw_below_drewN | apply below_drew1 | refine below_set ?_ GE263.out) | exact HB.out)))); (case aL => have := LMc3.out; omega); intro v268 w7 ho hb hg hat; rw [← Ny267.out] at ho; have n0_ := Aside0.mk (blk_grown (g := gb263) (o := .cells #[.slice none 0 0, .slice none 0 0] 26 (0, 0)) (by (with_reducible repeat (first | refine blk_drewN ?_ _ | refine blk_drew ?_ | refine blk_alloc ?_ _)); exact BK263.out) hg (Kd.R_ne HO266.out BK263.out (by decide))); have n1_ := Aside0.mk (hb); have n2_ := Aside0.mk (ho); clear BK263; clear HB; clear HO266; have BK263 := n0_; have HB := n1_; have HO269 := n2_; clear n0_ n1_ n2_; clear ho hb hg hat; obtain ⟨Ao8, co8, eo8⟩ := Kd.R_slice HO269.out; subst eo8) | ((with_reducible refine gate_dst (N := 6) rfl ?_); refine box_event ?hg (N := 6) ?hd (cs := #[.slice none 0 0, .slice none 0 0]) (t := 26) ?hr ?_; (case hd => rfl); (case hg => rfl); (case hr => first | (go_simp; done) | (go_simp; rfl)); intro gb270 hg w9 hbox hb; have n0_ := Aside0.mk (Kd.R_below (by (with_reducible repeat (first | apply Kd.R_alloc | apply Kd.R_drewN | apply Kd.R_drew)); exact HO269.out) hb); have n1_ := Aside0.mk (blk_below (g := gb263) (o := .cells #[.slice none 0 0, .slice none 0 0] 26 (0, 0)) (by (with_reducible repeat (first | refine blk_drewN ?_ _ | refine blk_drew ?_ | refine blk_alloc ?_ _)); exact BK263.out) hb); have n2_ := Aside0.mk (below_step (by repeat (first | (with_reducible first | exact HB.out | apply below_alloc | apply pw_below_drewN | apply below_drew1 | refine below_set ?_ GE263.out) | exact HB.out)) hb); have n3_ := Aside0.mk (hbox); have n4_ := Aside0.mk ((by rw [hg]; exact (below_size (by repeat (first | (with_reducible first | exact HB.out | apply below_alloc | apply pw_below_drewN | apply below_drew1 | refine below_set ?_ GE263.out) | exact HB.out))) : w.heap.size ≤ gb270)); have n5_ := Aside0.mk ((by rw [hg]; exact (below_size (by repeat (first | (with_reducible first | exact HB.out | apply below_alloc | apply pw_below_drewN | apply below_drew1 | refine below_set ?_ GE263.out) | exact HB.out))) : w.heap.size ≤ gb270)); have n6_ := Aside0.mk ((by rw [hg]; exact Nat.ne_of_lt (blk_lt (g := gb263) (o := .cells #[.slice none 0 0, .slice none 0 0] 26 (0, 0)) (by (with_reducible repeat (first | refine blk_drewN ?_ _ | refine blk_drew ?_ | refine blk_alloc ?_ _)); exact BK263.out)) : gb263 ≠ gb270)); have n7_ := Aside0.mk ((by rw [hg]; exact Nat.ne_of_gt (blk_lt (g := gb263) (o := .cells #[.slice none 0 0, .slice none 0 0] 26 (0, 0)) (by (with_reducible repeat (first | refine blk_drewN ?_ _ | refine blk_drew ?_ | refine blk_alloc ?_ _)); exact BK263.out)) : gb270 ≠ gb263)); clear HO269; clear BK263; clear HB; have HO269 := n0_; have BK263 := n1_; have HB := n2_; have BK270 := n3_; have GW270 := n4_; have GE270 := n5_; have NB263_270 := n6_; have NB270_263 := n7_; clear n0_ n1_ n2_ n3_ n4_ n5_ n6_ n7_; clear hb hbox hg; have hnb10 := NB270_263.out; have hnc10 := NB263_270.out; have hcz11_0 : w9.cell? ⟨gb270, 0, none⟩ = some (.slice none 0 0) := (blk_cell BK270.out 0).trans rfl; have hcz11_1 : w9.cell? ⟨gb270, 1, none⟩ = some (.slice none 0 0) := (blk_cell BK270.out 1).trans rfl; have hfz11_0 := blk_frozen BK270.out 0; have hfz11_1 := blk_frozen BK270.out 1))
    go_loopg [17] k (fun kq v17 w' => ∃ (x17_1 : Int) (x271001_1 : List Int) (u271001 : Value), v17 = .int .i64 x17_1 ∧ Aside0 (impl_joined.l0 kq l0 (l0.length : Int) x17_1 y267 x271001_1 = some (r1, r2, r3)) ∧ Aside0 (kq ≤ k) ∧ Aside0 (Kd.R (Kd.int .i64) 3 w' w.heap.size (fun k_ => some k_ ≠ (u271001 : Value).ownBlock) (.slice Ao8 y267.length co8) y267) ∧ Aside0 (Kd.R (Kd.int .i64) 3 w' w.heap.size (fun k_ => some k_ ≠ ((.slice Ao8 y267.length co8) : Value).ownBlock) u271001 x271001_1) ∧ Aside0 (w'.heap[gb263]? = some (.cells #[(.slice none 0 0), (.slice none 0 0)] 26 (0, 0))) ∧ Aside0 (w'.heap[gb270]? = some (.cells #[(.slice Ao8 y267.length co8), u271001] 26 (0, 0))) ∧ Aside0 (Below w.heap.size w w'))
    case atStart => exact ⟨(0), (([] : List Int)), (.slice none 0 0), (by first | rfl | (simp; done) | (simp [*]; done)), H', ⟨Nat.le_refl _⟩, ⟨by (with_reducible repeat (first | apply Kd.R_alloc | apply Kd.R_drewN | apply Kd.R_drew)); exact Kd.R_mono (Kd.R_far (p := ⟨gb270, 1, none⟩) (Kd.R_far (p := ⟨gb270, 0, none⟩) (Kd.R_types HO269.out BK270.out (by decide)) (fun _ hk => hk.2) (.slice Ao8 y267.length co8)) (fun _ hk => hk.2) (.slice none 0 0)) (fun _ hk => (by simp [Value.ownBlock]))⟩, ⟨by first | exact Kd.R_nil _ _ _ _ _ | exact Kd.N_nil _ _ _ _ _ | exact Kd.V_nil _ _ _ _ _ | exact Kd.Q_nil _ _ _ _ _ | exact Kd.S_nil _ _ _ _ _⟩, ⟨by (with_reducible repeat (first | refine blk_drewN ?_ _ | refine blk_drew ?_ | refine blk_alloc ?_ _)); refine blk_far ?_ NB263_270.out _; (with_reducible repeat (first | refine blk_drewN ?_ _ | refine blk_drew ?_ | refine blk_alloc ?_ _)); refine blk_far ?_ NB263_270.out _; (with_reducible repeat (first | refine blk_drewN ?_ _ | refine blk_drew ?_ | refine blk_alloc ?_ _)); exact BK263.out⟩, ⟨by (with_reducible repeat (first | refine blk_drewN ?_ _ | refine blk_drew ?_ | refine blk_alloc ?_ _)); refine blk_put (cs := #[.slice Ao8 y267.length co8, .slice none 0 0]) ?_ 1 _ rfl; (with_reducible repeat (first | refine blk_drewN ?_ _ | refine blk_drew ?_ | refine blk_alloc ?_ _)); refine blk_put (cs := #[.slice none 0 0, .slice none 0 0]) ?_ 0 _ rfl; (with_reducible repeat (first | refine blk_drewN ?_ _ | refine blk_drew ?_ | refine blk_alloc ?_ _)); exact BK270.out⟩, ⟨by repeat (first | (with_reducible first | exact HB.out | apply below_alloc | apply pw_below_drewN | apply below_drew1 | refine below_set ?_ GE263.out | refine below_set ?_ GE270.out) | exact HB.out)⟩⟩
    case round =>
      clear H'
      try clear c1
      try clear p2
      try clear c3
      try clear c7
      try clear c10
      try clear hcz11_0
      try clear hcz11_1
      try clear hfz11_0
      try clear hfz11_1
      obtain ⟨x17_1, x271001_1, u271001, rfl, HA, HK1, HO_271000, HO_271001, BK263, BK270, HB⟩ := hrel
      cases gk with
      | zero => exact absurd HA.out (by simp [impl_joined.l0])
      | succ k1 =>
        have H := HA.out
        clear HA
        simp only [impl_joined.l0] at H
        by_cases c12 : x17_1 < (l0.length : Int)
        · rw [if_pos c12] at H
          have c12b0 : decide (x17_1 < (l0.length : Int)) = true := decide_eq_true c12
          clear c12
          by_cases c13 : 0 ≤ x17_1
          · rw [if_pos c13] at H
            have c13b0 : decide (0 ≤ x17_1) = true := decide_eq_true c13
            clear c13
            by_cases c14 : x17_1 < (l0.length : Int)
            · rw [if_pos c14] at H
              have c14b0 : decide (x17_1 < (l0.length : Int)) = true := decide_eq_true c14
              clear c14
              by_cases c15 : x271001_1.length + ((rd_T26 l0 x17_1).f1).length < 17592186044416
              · rw [if_pos c15] at H
                have LMc15 := Aside0.mk c15
                clear c15
                obtain ⟨y273, hy273⟩ : ∃ y_ : List Int, y_ = (x271001_1 ++ ((rd_T26 l0 x17_1).f1)) := ⟨_, rfl⟩
                replace H : (impl_joined.l0 k1 l0 (l0.length : Int) (wrap64 (x17_1 + 1)) y267 y273) = some (r1, r2, r3) := by first | (rw [hy273]; with_reducible exact H) | (have H2_ := (Option.bind_some _ _).symm.trans H; rw [hy273]; with_reducible exact H2_) | (have H2_ := (Option.bind_some _ _).symm.trans H; with_reducible exact H2_) | with_reducible exact H | (rw [hy273]; exact H) | exact H
                have Ny273 := Aside0.mk hy273
                clear hy273
                have H' := Aside0.mk H
                clear H
                have p271 : 0 ≤ (x17_1 : Int) := of_decide_eq_true (by first | (with_reducible assumption) | assumption)
                have q271 : x17_1 < (l0.length : Int) := of_decide_eq_true (by first | (with_reducible assumption) | assumption)
                obtain ⟨ad271, A271_0, c271_0, A271_1, c271_1, e271, hx271_0, hx271_1, hl271_0, hi271_0, hl271_1, hi271_1⟩ := at_T26 HR0.out x17_1 p271 q271
                cases e271
                replace hx271_0 := (HB.out.cell (World.block_lt_of_cell? w _ hx271_0)).trans hx271_0
                replace hx271_1 := (HB.out.cell (World.block_lt_of_cell? w _ hx271_1)).trans hx271_1
                have HR271_0 := Aside0.mk hi271_0
                have HC271_0 := Aside0.mk hl271_0
                clear hi271_0 hl271_0
                have HR271_1 := Aside0.mk hi271_1
                have HC271_1 := Aside0.mk hl271_1
                clear hi271_1 hl271_1
                replace p271 := eq_true p271
                replace q271 := eq_true q271
                go_wp2_with (first | ((with_reducible refine gate_dst (N := 8) rfl ?_); refine box_event ?hg (N := 8) ?hd (cs := #[.slice none 0 0, .slice none 0 0]) (t := 26) ?hr ?_; (case hd => rfl); (case hg => rfl); (case hr => first | (go_simp; done) | (go_simp; rfl)); intro gb272 hg w16 hbox hb; have n0_ := Aside0.mk (Kd.R_below (by (with_reducible repeat (first | apply Kd.R_alloc | apply Kd.R_drewN | apply Kd.R_drew)); exact HO_271000.out) hb); have n1_ := Aside0.mk (Kd.R_below (by (with_reducible repeat (first | apply Kd.R_alloc | apply Kd.R_drewN | apply Kd.R_drew)); exact HO_271001.out) hb); have n2_ := Aside0.mk (blk_below (g := gb263) (o := .cells #[.slice none 0 0, .slice none 0 0] 26 (0, 0)) (by (with_reducible repeat (first | refine blk_drewN ?_ _ | refine blk_drew ?_ | refine blk_alloc ?_ _)); exact BK263.out) hb); have n3_ := Aside0.mk (blk_below (g := gb270) (o := .cells #[.slice Ao8 y267.length co8, u271001] 26 (0, 0)) (by (with_reducible repeat (first | refine blk_drewN ?_ _ | refine blk_drew ?_ | refine blk_alloc ?_ _)); exact BK270.out) hb); have n4_ := Aside0.mk (below_step (by repeat (first | (with_reducible first | exact HB.out | apply below_alloc | apply pw_below_drewN | apply below_drew1 | refine below_set ?_ GE263.out | refine below_set ?_ GE270.out) | exact HB.out)) hb); have n5_ := Aside0.mk (hbox); have n6_ := Aside0.mk ((by rw [hg]; exact (below_size (by repeat (first | (with_reducible first | exact HB.out | apply below_alloc | apply pw_below_drewN | apply below_drew1 | refine below_set ?_ GE263.out | refine below_set ?_ GE270.out) | exact HB.out))) : w.heap.size ≤ gb272)); have n7_ := Aside0.mk ((by rw [hg]; exact (below_size (by repeat (first | (with_reducible first | exact HB.out | apply below_alloc | apply pw_below_drewN | apply below_drew1 | refine below_set ?_ GE263.out | refine below_set ?_ GE270.out) | exact HB.out))) : w.heap.size ≤ gb272)); have n8_ := Aside0.mk ((by rw [hg]; exact Nat.ne_of_lt (blk_lt (g := gb263) (o := .cells #[.slice none 0 0, .slice none 0 0] 26 (0, 0)) (by (with_reducible repeat (first | refine blk_drewN ?_ _ | refine blk_drew ?_ | refine blk_alloc ?_ _)); exact BK263.out)) : gb263 ≠ gb272)); have n9_ := Aside0.mk ((by rw [hg]; exact Nat.ne_of_gt (blk_lt (g := gb263) (o := .cells #[.slice none 0 0, .slice none 0 0] 26 (0, 0)) (by (with_reducible repeat (first | refine blk_drewN ?_ _ | refine blk_drew ?_ | refine blk_alloc ?_ _)); exact BK263.out)) : gb272 ≠ gb263)); have n10_ := Aside0.mk ((by rw [hg]; exact Nat.ne_of_lt (blk_lt (g := gb270) (o := .cells #[.slice Ao8 y267.length co8, u271001] 26 (0, 0)) (by (with_reducible repeat (first | refine blk_drewN ?_ _ | refine blk_drew ?_ | refine blk_alloc ?_ _)); exact BK270.out)) : gb270 ≠ gb272)); have n11_ := Aside0.mk ((by rw [hg]; exact Nat.ne_of_gt (blk_lt (g := gb270) (o := .cells #[.slice Ao8 y267.length co8, u271001] 26 (0, 0)) (by (with_reducible repeat (first | refine blk_drewN ?_ _ | refine blk_drew ?_ | refine blk_alloc ?_ _)); exact BK270.out)) : gb272 ≠ gb270)); clear HO_271000; clear HO_271001; clear BK263; clear BK270; clear HB; have HO_271000 := n0_; have HO_271001 := n1_; have BK263 := n2_; have BK270 := n3_; have HB := n4_; have BK272 := n5_; have GW272 := n6_; have GE272 := n7_; have NB263_272 := n8_; have NB272_263 := n9_; have NB270_272 := n10_; have NB272_270 := n11_; clear n0_ n1_ n2_ n3_ n4_ n5_ n6_ n7_ n8_ n9_ n10_ n11_; clear hb hbox hg; have hnb17 := NB272_263.out; have hnc17 := NB263_272.out; have hnb18 := NB272_270.out; have hnc18 := NB270_272.out; have hcz19_0 : w16.cell? ⟨gb272, 0, none⟩ = some (.slice none 0 0) := (blk_cell BK272.out 0).trans rfl; have hcz19_1 : w16.cell? ⟨gb272, 1, none⟩ = some (.slice none 0 0) := (blk_cell BK272.out 1).trans rfl; have hfz19_0 := blk_frozen BK272.out 0; have hfz19_1 := blk_frozen BK272.out 1; have hnb20 := NB270_263.out; have hnc20 := NB263_270.out; have hcz21_0 : w16.cell? ⟨gb270, 0, none⟩ = some (.slice Ao8 y267.length co8) := (blk_cell BK270.out 0).trans rfl; have hcz21_1 : w16.cell? ⟨gb270, 1, none⟩ = some (u271001) := (blk_cell BK270.out 1).trans rfl; have hfz21_0 := blk_frozen BK270.out 0; have hfz21_1 := blk_frozen BK270.out 1) | ((with_reducible refine gate_builtin (b := .append) (xs := #[.tmp 22, .tmp 24]) rfl ?_); at_builtin; refine Kd.R_append_rows (Kd.int .i64) (w0 := w) w.heap.size rfl (.tmp 22) (.tmp 24) 22 3 (.int .i64 0) 8 rfl Try.underlying22 info3 rfl (by decide) (by omega) u271001 x271001_1 ((rd_T26 l0 x17_1).f1) _ _ _ (fun k_ => some k_ ≠ (.slice Ao8 y267.length co8 : Value).ownBlock) (fun _ => False) rfl rfl ?aO ?aR (fun _ _ h => h) (fun _ h => h.elim) ?aF ?aB ?aS ?aL ?_; (case aR => exact Kd.C_below HR271_1.out (by repeat (first | (with_reducible first | exact HB.out | apply below_alloc | apply pw_below_drewN | apply below_drew1 | refine below_set ?_ GE263.out | refine below_set ?_ GE270.out | refine below_set ?_ GE272.out) | exact HB.out))); (case aB => exact (by repeat (first | (with_reducible first | exact HB.out | apply below_alloc | apply pw_below_drewN | apply below_drew1 | refine below_set ?_ GE263.out | refine below_set ?_ GE270.out | refine below_set ?_ GE272.out) | exact HB.out))); (case aF => exact (fun k_ hk => Kd.fresh' (Kd.R_lt (by (with_reducible repeat (first | apply Kd.R_alloc | apply Kd.R_drewN | apply Kd.R_drew)); exact (Kd.R_mono (Kd.R_far (p := ⟨gb272, 1, none⟩) (Kd.R_far (p := ⟨gb272, 0, none⟩) (Kd.R_types HO_271000.out BK272.out (by decide)) (fun _ hk => hk.2) (.slice A271_0 ((rd_T26 l0 x17_1).f0).length c271_0)) (fun _ hk => hk.2) (.slice A271_1 ((rd_T26 l0 x17_1).f1).length c271_1)) (fun _ h_ => h_.1)))) k_ hk)); (case aO => exact (by (with_reducible repeat (first | apply Kd.R_alloc | apply Kd.R_drewN | apply Kd.R_drew)); exact Kd.R_mono (Kd.R_far (p := ⟨gb272, 1, none⟩) (Kd.R_far (p := ⟨gb272, 0, none⟩) (Kd.R_types HO_271001.out BK272.out (by decide)) (fun _ hk => hk.2) (.slice A271_0 ((rd_T26 l0 x17_1).f0).length c271_0)) (fun _ hk => hk.2) (.slice A271_1 ((rd_T26 l0 x17_1).f1).length c271_1)) (fun _ hk => hk.1))); (case aS => exact (below_size (by repeat (first | (with_reducible first | exact HB.out | apply below_alloc | apply pw_below_drewN | apply below_drew1 | refine below_set ?_ GE263.out | refine below_set ?_ GE270.out | refine below_set ?_ GE272.out) | exact HB.out)))); (case aL => have := LMc15.out; omega); intro v274 w22 ho hb hg hat; rw [← Ny273.out] at ho; have n0_ := Aside0.mk (Kd.R_after (ok := (fun _ => True)) (by (with_reducible repeat (first | apply Kd.R_alloc | apply Kd.R_drewN | apply Kd.R_drew)); exact Kd.R_mono (Kd.R_far (p := ⟨gb272, 1, none⟩) (Kd.R_far (p := ⟨gb272, 0, none⟩) (Kd.R_types HO_271000.out BK272.out (by decide)) (fun _ hk => hk.2) (.slice A271_0 ((rd_T26 l0 x17_1).f0).length c271_0)) (fun _ hk => hk.2) (.slice A271_1 ((rd_T26 l0 x17_1).f1).length c271_1)) (fun _ hk => ⟨trivial, hk.1⟩)) hg hat); have n1_ := Aside0.mk (blk_grown (g := gb263) (o := .cells #[.slice none 0 0, .slice none 0 0] 26 (0, 0)) (by (with_reducible repeat (first | refine blk_drewN ?_ _ | refine blk_drew ?_ | refine blk_alloc ?_ _)); refine blk_far ?_ NB263_272.out _; (with_reducible repeat (first | refine blk_drewN ?_ _ | refine blk_drew ?_ | refine blk_alloc ?_ _)); refine blk_far ?_ NB263_272.out _; (with_reducible repeat (first | refine blk_drewN ?_ _ | refine blk_drew ?_ | refine blk_alloc ?_ _)); exact BK263.out) hg (Kd.R_ne HO_271001.out BK263.out (by decide))); have n2_ := Aside0.mk (blk_grown (g := gb270) (o := .cells #[.slice Ao8 y267.length co8, u271001] 26 (0, 0)) (by (with_reducible repeat (first | refine blk_drewN ?_ _ | refine blk_drew ?_ | refine blk_alloc ?_ _)); refine blk_far ?_ NB270_272.out _; (with_reducible repeat (first | refine blk_drewN ?_ _ | refine blk_drew ?_ | refine blk_alloc ?_ _)); refine blk_far ?_ NB270_272.out _; (with_reducible repeat (first | refine blk_drewN ?_ _ | refine blk_drew ?_ | refine blk_alloc ?_ _)); exact BK270.out) hg (Kd.R_ne HO_271001.out BK270.out (by decide))); have n3_ := Aside0.mk (blk_grown (g := gb272) (o := .cells #[.slice A271_0 ((rd_T26 l0 x17_1).f0).length c271_0, .slice A271_1 ((rd_T26 l0 x17_1).f1).length c271_1] 26 (0, 0)) (by (with_reducible repeat (first | refine blk_drewN ?_ _ | refine blk_drew ?_ | refine blk_alloc ?_ _)); refine blk_put (cs := #[.slice A271_0 ((rd_T26 l0 x17_1).f0).length c271_0, .slice none 0 0]) ?_ 1 _ rfl; (with_reducible repeat (first | refine blk_drewN ?_ _ | refine blk_drew ?_ | refine blk_alloc ?_ _)); refine blk_put (cs := #[.slice none 0 0, .slice none 0 0]) ?_ 0 _ rfl; (with_reducible repeat (first | refine blk_drewN ?_ _ | refine blk_drew ?_ | refine blk_alloc ?_ _)); exact BK272.out) hg (Kd.R_ne HO_271001.out BK272.out (by decide))); have n4_ := Aside0.mk (hb); have n5_ := Aside0.mk (ho); clear HO_271000; clear BK263; clear BK270; clear BK272; clear HB; clear HO_271001; have HO_271000 := n0_; have BK263 := n1_; have BK270 := n2_; have BK272 := n3_; have HB := n4_; have HO275 := n5_; clear n0_ n1_ n2_ n3_ n4_ n5_; clear ho hb hg hat; obtain ⟨Ao23, co23, eo23⟩ := Kd.R_slice HO275.out; subst eo23; have hcz24_0 : w22.cell? ⟨gb270, 0, none⟩ = some (.slice Ao8 y267.length co8) := (blk_cell BK270.out 0).trans rfl; have hcz24_1 : w22.cell? ⟨gb270, 1, none⟩ = some (u271001) := (blk_cell BK270.out 1).trans rfl; have hfz24_0 := blk_frozen BK270.out 0; have hfz24_1 := blk_frozen BK270.out 1))
                go_roundg k1
                case measure => have := HK1.out; omega
                case rel => exact ⟨(wrap64 (x17_1 + 1)), (y273), (.slice Ao23 y273.length co23), (by first | rfl | (simp; done) | (simp [*]; done)), H', ⟨by have := HK1.out; omega⟩, ⟨by (with_reducible repeat (first | apply Kd.R_alloc | apply Kd.R_drewN | apply Kd.R_drew)); exact Kd.R_mono (Kd.R_far (p := ⟨gb270, 1, none⟩) (Kd.R_types HO_271000.out BK270.out (by decide)) (fun _ hk => hk.2) (.slice Ao23 y273.length co23)) (fun _ hk => hk.1.2)⟩, ⟨by (with_reducible repeat (first | apply Kd.R_alloc | apply Kd.R_drewN | apply Kd.R_drew)); exact Kd.R_mono (Kd.R_far (p := ⟨gb270, 1, none⟩) (Kd.R_types HO275.out BK270.out (by decide)) (fun _ hk => hk.2) (.slice Ao23 y273.length co23)) (fun _ hk => hk.1)⟩, ⟨by (with_reducible repeat (first | refine blk_drewN ?_ _ | refine blk_drew ?_ | refine blk_alloc ?_ _)); refine blk_far ?_ NB263_270.out _; (with_reducible repeat (first | refine blk_drewN ?_ _ | refine blk_drew ?_ | refine blk_alloc ?_ _)); exact BK263.out⟩, ⟨by (with_reducible repeat (first | refine blk_drewN ?_ _ | refine blk_drew ?_ | refine blk_alloc ?_ _)); refine blk_put (cs := #[.slice Ao8 y267.length co8, u271001]) ?_ 1 _ rfl; (with_reducible repeat (first | refine blk_drewN ?_ _ | refine blk_drew ?_ | refine blk_alloc ?_ _)); exact BK270.out⟩, ⟨by repeat (first | (with_reducible first | exact HB.out | apply below_alloc | apply pw_below_drewN | apply below_drew1 | refine below_set ?_ GE263.out | refine below_set ?_ GE270.out | refine below_set ?_ GE272.out) | exact HB.out)⟩⟩
              · rw [if_neg c15] at H
                exact absurd H (by simp)
            · rw [if_neg c14] at H
              exact absurd H (by simp)
          · rw [if_neg c13] at H
            exact absurd H (by simp)
        · rw [if_neg c12] at H
          have c12b0 : decide (x17_1 < (l0.length : Int)) = false := decide_eq_false c12
          clear c12
          replace H := Option.bind_eq_some_iff.mp H
          obtain ⟨t276, A250, H⟩ := H
          replace H : (if t276 = true then (some (y267, x271001_1, 0)) else (some (([] : List Int), ([] : List Int), 6))) = some (r1, r2, r3) := H
          have A25 := Aside0.mk A250
          clear A250
          by_cases c26 : t276 = true
          · subst c26
            have H1 : (some (y267, x271001_1, 0)) = some (r1, r2, r3) := by rw [if_pos rfl] at H; exact H
            clear H
            have H := H1
            clear H1
            simp only [Option.some.injEq, Prod.mk.injEq] at H
            obtain ⟨rfl, rfl, rfl⟩ := H
            have hnb27 := NB270_263.out
            have hnc27 := NB263_270.out
            have hcz28_0 : wr.cell? ⟨gb270, 0, none⟩ = some (.slice Ao8 y267.length co8) := (blk_cell BK270.out 0).trans rfl
            have hcz28_1 : wr.cell? ⟨gb270, 1, none⟩ = some (u271001) := (blk_cell BK270.out 1).trans rfl
            have hfz28_0 := blk_frozen BK270.out 0
            have hfz28_1 := blk_frozen BK270.out 1
            obtain ⟨Ao29, co29, eo29⟩ := Kd.R_slice HO_271001.out
            subst eo29
            go_wp2_with (first | ((with_reducible refine gate_callee (f := 36) rfl ?_); refine goesL_ (some 29) rfl rfl Try.func36 (by kernel_rfl) rfl #[.agg #[.slice Ao8 y267.length co8, .slice Ao29 x271001_1.length co29]] rfl (by (try simp only [List.map_toArray, List.map_cons, List.map_nil]); first | done | rfl | (simp only [List.length_drop, List.length_take]; rfl)) ?_; (with_reducible refine (impl_ArrayOk.calls k1 _ _ y267 _ _ x271001_1 true _ ?side1 ?side2 ?side3 ?side4 A25.out).mono ?_); (case side1 => repeat (first | exact (Kd.R_reads' HO_271000.out).2.2 | (with_reducible refine Kd.C_alloc ?_ _) | (with_reducible refine Kd.C_drewN ?_ _) | (with_reducible refine Kd.C_drew ?_))); (case side2 => exact (Kd.R_reads' HO_271000.out).2.1); (case side3 => repeat (first | exact (Kd.R_reads' HO_271001.out).2.2 | (with_reducible refine Kd.C_alloc ?_ _) | (with_reducible refine Kd.C_drewN ?_ _) | (with_reducible refine Kd.C_drew ?_))); (case side4 => exact (Kd.R_reads' HO_271001.out).2.1); rintro e w30 ⟨rfl, hb⟩; refine ⟨_, rfl, ?_⟩; have n0_ := Aside0.mk (Kd.R_below (by (with_reducible repeat (first | apply Kd.R_alloc | apply Kd.R_drewN | apply Kd.R_drew)); exact HO_271000.out) hb); have n1_ := Aside0.mk (Kd.R_below (by (with_reducible repeat (first | apply Kd.R_alloc | apply Kd.R_drewN | apply Kd.R_drew)); exact HO_271001.out) hb); have n2_ := Aside0.mk (blk_below (g := gb263) (o := .cells #[.slice none 0 0, .slice none 0 0] 26 (0, 0)) (by (with_reducible repeat (first | refine blk_drewN ?_ _ | refine blk_drew ?_ | refine blk_alloc ?_ _)); exact BK263.out) hb); have n3_ := Aside0.mk (blk_below (g := gb270) (o := .cells #[.slice Ao8 y267.length co8, .slice Ao29 x271001_1.length co29] 26 (0, 0)) (by (with_reducible repeat (first | refine blk_drewN ?_ _ | refine blk_drew ?_ | refine blk_alloc ?_ _)); exact BK270.out) hb); have n4_ := Aside0.mk (below_step (by repeat (first | (with_reducible first | exact HB.out | apply below_alloc | apply pw_below_drewN | apply below_drew1 | refine below_set ?_ GE263.out | refine below_set ?_ GE270.out) | exact HB.out)) hb); clear HO_271000; clear HO_271001; clear BK263; clear BK270; clear HB; have HO_271000 := n0_; have HO_271001 := n1_; have BK263 := n2_; have BK270 := n3_; have HB := n4_; clear n0_ n1_ n2_ n3_ n4_; (try clear hb); (try clear hb2); (try clear hk); (try clear hi); have hcz31_0 : w30.cell? ⟨gb270, 0, none⟩ = some (.slice Ao8 y267.length co8) := (blk_cell BK270.out 0).trans rfl; have hcz31_1 : w30.cell? ⟨gb270, 1, none⟩ = some (.slice Ao29 x271001_1.length co29) := (blk_cell BK270.out 1).trans rfl; have hfz31_0 := blk_frozen BK270.out 0; have hfz31_1 := blk_frozen BK270.out 1; have hcz32_0 : w30.cell? ⟨gb263, 0, none⟩ = some (.slice none 0 0) := (blk_cell BK263.out 0).trans rfl; have hcz32_1 : w30.cell? ⟨gb263, 1, none⟩ = some (.slice none 0 0) := (blk_cell BK263.out 1).trans rfl; have hfz32_0 := blk_frozen BK263.out 0; have hfz32_1 := blk_frozen BK263.out 1))
            refine bodyPost_ret (results_ct rfl _ _ gb263 26 #[.slice Ao8 y267.length co8, .slice Ao29 x271001_1.length co29] (0, 0) _ rfl (by (with_reducible repeat (first | refine blk_drewN ?_ _ | refine blk_drew ?_ | refine blk_alloc ?_ _)); refine blk_put (cs := #[.slice Ao8 y267.length co8, .slice none 0 0]) ?_ 1 _ rfl; (with_reducible repeat (first | refine blk_drewN ?_ _ | refine blk_drew ?_ | refine blk_alloc ?_ _)); refine blk_put (cs := #[.slice none 0 0, .slice none 0 0]) ?_ 0 _ rfl; (with_reducible repeat (first | refine blk_drewN ?_ _ | refine blk_drew ?_ | refine blk_alloc ?_ _)); exact BK263.out) Try.underlying26 rfl (by kernel_rfl)) rfl ?_
            exact ⟨_, _, by first | rfl | (simp [errW_none, errW_some] <;> rfl) | (simp [*, errW_none, errW_some] <;> rfl), by (with_reducible repeat (first | apply Kd.R_alloc | apply Kd.R_drewN | apply Kd.R_drew)); exact Kd.R_mono (Kd.R_far (p := ⟨gb263, 1, none⟩) (Kd.R_far (p := ⟨gb263, 0, none⟩) (Kd.R_types HO_271000.out BK263.out (by decide)) (fun _ hk => hk.2) (.slice Ao8 y267.length co8)) (fun _ hk => hk.2) (.slice Ao29 x271001_1.length co29)) (fun _ hk => hk.1), by (with_reducible repeat (first | apply Kd.R_alloc | apply Kd.R_drewN | apply Kd.R_drew)); exact Kd.R_mono (Kd.R_far (p := ⟨gb263, 1, none⟩) (Kd.R_far (p := ⟨gb263, 0, none⟩) (Kd.R_types HO_271001.out BK263.out (by decide)) (fun _ hk => hk.2) (.slice Ao8 y267.length co8)) (fun _ hk => hk.2) (.slice Ao29 x271001_1.length co29)) (fun _ hk => hk.1), by repeat (first | (with_reducible first | exact HB.out | apply below_alloc | apply pw_below_drewN | apply below_drew1 | refine below_set ?_ GE263.out | refine below_set ?_ GE270.out) | exact HB.out)⟩
          · replace c26 := Bool.eq_false_iff.mpr c26
            subst c26
            have H1 : (some (([] : List Int), ([] : List Int), 6)) = some (r1, r2, r3) := by rw [if_neg (show ¬ (false = true) by decide)] at H; exact H
            clear H
            have H := H1
            clear H1
            simp only [Option.some.injEq, Prod.mk.injEq] at H
            obtain ⟨rfl, rfl, rfl⟩ := H
            have hnb33 := NB270_263.out
            have hnc33 := NB263_270.out
            have hcz34_0 : wr.cell? ⟨gb270, 0, none⟩ = some (.slice Ao8 y267.length co8) := (blk_cell BK270.out 0).trans rfl
            have hcz34_1 : wr.cell? ⟨gb270, 1, none⟩ = some (u271001) := (blk_cell BK270.out 1).trans rfl
            have hfz34_0 := blk_frozen BK270.out 0
            have hfz34_1 := blk_frozen BK270.out 1
            obtain ⟨Ao35, co35, eo35⟩ := Kd.R_slice HO_271001.out
            subst eo35
            go_wp2_with (first | ((with_reducible refine gate_callee (f := 36) rfl ?_); refine goesL_ (some 29) rfl rfl Try.func36 (by kernel_rfl) rfl #[.agg #[.slice Ao8 y267.length co8, .slice Ao35 x271001_1.length co35]] rfl (by (try simp only [List.map_toArray, List.map_cons, List.map_nil]); first | done | rfl | (simp only [List.length_drop, List.length_take]; rfl)) ?_; (with_reducible refine (impl_ArrayOk.calls k1 _ _ y267 _ _ x271001_1 false _ ?side1 ?side2 ?side3 ?side4 A25.out).mono ?_); (case side1 => repeat (first | exact (Kd.R_reads' HO_271000.out).2.2 | (with_reducible refine Kd.C_alloc ?_ _) | (with_reducible refine Kd.C_drewN ?_ _) | (with_reducible refine Kd.C_drew ?_))); (case side2 => exact (Kd.R_reads' HO_271000.out).2.1); (case side3 => repeat (first | exact (Kd.R_reads' HO_271001.out).2.2 | (with_reducible refine Kd.C_alloc ?_ _) | (with_reducible refine Kd.C_drewN ?_ _) | (with_reducible refine Kd.C_drew ?_))); (case side4 => exact (Kd.R_reads' HO_271001.out).2.1); rintro e w36 ⟨rfl, hb⟩; refine ⟨_, rfl, ?_⟩; have n0_ := Aside0.mk (Kd.R_below (by (with_reducible repeat (first | apply Kd.R_alloc | apply Kd.R_drewN | apply Kd.R_drew)); exact HO_271000.out) hb); have n1_ := Aside0.mk (Kd.R_below (by (with_reducible repeat (first | apply Kd.R_alloc | apply Kd.R_drewN | apply Kd.R_drew)); exact HO_271001.out) hb); have n2_ := Aside0.mk (blk_below (g := gb263) (o := .cells #[.slice none 0 0, .slice none 0 0] 26 (0, 0)) (by (with_reducible repeat (first | refine blk_drewN ?_ _ | refine blk_drew ?_ | refine blk_alloc ?_ _)); exact BK263.out) hb); have n3_ := Aside0.mk (blk_below (g := gb270) (o := .cells #[.slice Ao8 y267.length co8, .slice Ao35 x271001_1.length co35] 26 (0, 0)) (by (with_reducible repeat (first | refine blk_drewN ?_ _ | refine blk_drew ?_ | refine blk_alloc ?_ _)); exact BK270.out) hb); have n4_ := Aside0.mk (below_step (by repeat (first | (with_reducible first | exact HB.out | apply below_alloc | apply pw_below_drewN | apply below_drew1 | refine below_set ?_ GE263.out | refine below_set ?_ GE270.out) | exact HB.out)) hb); clear HO_271000; clear HO_271001; clear BK263; clear BK270; clear HB; have HO_271000 := n0_; have HO_271001 := n1_; have BK263 := n2_; have BK270 := n3_; have HB := n4_; clear n0_ n1_ n2_ n3_ n4_; (try clear hb); (try clear hb2); (try clear hk); (try clear hi); have hcz37_0 : w36.cell? ⟨gb263, 0, none⟩ = some (.slice none 0 0) := (blk_cell BK263.out 0).trans rfl; have hcz37_1 : w36.cell? ⟨gb263, 1, none⟩ = some (.slice none 0 0) := (blk_cell BK263.out 1).trans rfl; have hfz37_0 := blk_frozen BK263.out 0; have hfz37_1 := blk_frozen BK263.out 1))
            refine bodyPost_ret (results_ct rfl _ _ gb263 26 #[.slice none 0 0, .slice none 0 0] (0, 0) _ rfl (by (with_reducible repeat (first | refine blk_drewN ?_ _ | refine blk_drew ?_ | refine blk_alloc ?_ _)); refine blk_put (cs := #[.slice none 0 0, .slice none 0 0]) ?_ 1 _ rfl; (with_reducible repeat (first | refine blk_drewN ?_ _ | refine blk_drew ?_ | refine blk_alloc ?_ _)); refine blk_put (cs := #[.slice none 0 0, .slice none 0 0]) ?_ 0 _ rfl; (with_reducible repeat (first | refine blk_drewN ?_ _ | refine blk_drew ?_ | refine blk_alloc ?_ _)); exact BK263.out) Try.underlying26 rfl (by kernel_rfl)) rfl ?_
            exact ⟨_, _, by first | rfl | (simp [errW_none, errW_some] <;> rfl) | (simp [*, errW_none, errW_some] <;> rfl), by first | exact Kd.R_nil _ _ _ _ _ | exact Kd.N_nil _ _ _ _ _ | exact Kd.V_nil _ _ _ _ _ | exact Kd.Q_nil _ _ _ _ _ | exact Kd.S_nil _ _ _ _ _, by first | exact Kd.R_nil _ _ _ _ _ | exact Kd.N_nil _ _ _ _ _ | exact Kd.V_nil _ _ _ _ _ | exact Kd.Q_nil _ _ _ _ _ | exact Kd.S_nil _ _ _ _ _, by repeat (first | (with_reducible first | exact HB.out | apply below_alloc | apply pw_below_drewN | apply below_drew1 | refine below_set ?_ GE263.out | refine below_set ?_ GE270.out) | exact HB.out)⟩
  · rw [if_neg c3] at H
    exact absurd H (by simp)

end Go.Proofs.Ytcnbajdnlkcjjaa.PFnExactRotate
