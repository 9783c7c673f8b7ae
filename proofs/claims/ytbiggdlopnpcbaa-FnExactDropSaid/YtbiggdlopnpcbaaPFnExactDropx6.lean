/- The walk of what a law reaches, for the law's row: written by a program of this session; it has no condition of its own. -/
import Derived.Test.YtbiggdlopnpcbaaPFnExactDropx0
import Derived.Test.YtbiggdlopnpcbaaQ
import Derived.Test.YtbiggdlopnpcbaaPFnExactDropx4
import Derived.Test.YtbiggdlopnpcbaaPFnExactDropx5
namespace Go.Proofs.Ytbiggdlopnpcbaa.PFnExactDrop
open Go.RowKit Go.Proofs.YtbiggdlopnpcbaaW.PrintWords Go.Proofs.YtbiggdlopnpcbaaW.PrintLast Go.Proofs.YtbiggdlopnpcbaaW.PrintMore Go.Proofs.YtbiggdlopnpcbaaQ
attribute [local go_sem] max2_int min2_int max_two min_two max_three min_three max_four min_four   -- for this text's walks alone
set_option linter.unusedVariables false
set_option linter.unusedSimpArgs false

/-! ### impl_Drop: function 11 -/
def impl_Drop.f (k : Nat) (l0_0 : List Int) (l0_1 : List Int) (l1_0 : List Int) (l1_1 : List Int) : Option (List Int × List Int × Int) := (impl_single.f k l0_0 l0_1 l1_0 l1_1).bind fun bt299 => (if bt299.2 = 0 then ((impl_asRows.f l1_0 l1_1).bind fun bt301 => ((impl_Rows.f k bt301.1 bt301.2).bind fun t307 => (if bt299.1 ≥ 0 then (if 0 ≤ (mn (mx bt299.1 (wrap64 (-bt299.1))) (t307.length : Int)) then (if (mn (mx bt299.1 (wrap64 (-bt299.1))) (t307.length : Int)) ≤ (t307.length : Int) then (if 1 ≤ (bt301.1.length : Int) then ((impl_joined.f k (t307.drop ((mn (mx bt299.1 (wrap64 (-bt299.1))) (t307.length : Int)) : Int).toNat) (bt301.1.drop 1)).bind fun bt318 => (some (bt318.1, bt318.2.1, bt318.2.2))) else (none)) else (none)) else (none)) else (if 0 ≤ (wrap64 ((t307.length : Int) - (mn (mx bt299.1 (wrap64 (-bt299.1))) (t307.length : Int)))) then (if (wrap64 ((t307.length : Int) - (mn (mx bt299.1 (wrap64 (-bt299.1))) (t307.length : Int)))) ≤ (t307.length : Int) then (if 1 ≤ (bt301.1.length : Int) then ((impl_joined.f k (t307.take ((wrap64 ((t307.length : Int) - (mn (mx bt299.1 (wrap64 (-bt299.1))) (t307.length : Int)))) : Int).toNat) (bt301.1.drop 1)).bind fun bt333 => (some (bt333.1, bt333.2.1, bt333.2.2))) else (none)) else (none)) else (none))))) else (some (([] : List Int), ([] : List Int), bt299.2)))
theorem impl_Drop.mono : ∀ a0 a1 a2 a3 k, LeO (impl_Drop.f k a0 a1 a2 a3) (impl_Drop.f (k + 1) a0 a1 a2 a3) := by
 intro a0 a1 a2 a3 k
 unfold impl_Drop.f
 repeat' first
   | (with_reducible exact impl_Rows.mono _ _ _)
   | (with_reducible exact impl_joined.mono _ _ _)
   | (with_reducible exact impl_single.mono _ _ _ _ _)
   | (with_reducible exact LeO.refl _)
   | (with_reducible exact LeO.none _)
   | (with_reducible refine LeO.ite ?_ ?_)
   | (with_reducible refine LeO.bind ?_ (fun _ => ?_))
   | exact impl_Rows.mono _ _ _
   | exact impl_joined.mono _ _ _
   | exact impl_single.mono _ _ _ _ _
   | exact LeO.none _
   | refine LeO.ite ?_ ?_
   | refine LeO.bind ?_ (fun _ => ?_)
set_option maxHeartbeats 8000000 in
set_option maxRecDepth 100000 in
theorem impl_Drop.calls (k : Nat) (A0_0 : Option Addr) (c0_0 : Nat) (l0_0 : List Int) (A0_1 : Option Addr) (c0_1 : Nat) (l0_1 : List Int) (A1_0 : Option Addr) (c1_0 : Nat) (l1_0 : List Int) (A1_1 : Option Addr) (c1_1 : Nat) (l1_1 : List Int) (r1 : List Int) (r2 : List Int) (r3 : Int) (w : World) (hr0_0 : Kd.C (Kd.int .i64) w A0_0 l0_0.length l0_0) (hc0_0 : l0_0.length ≤ c0_0) (hr0_1 : Kd.C (Kd.int .i64) w A0_1 l0_1.length l0_1) (hc0_1 : l0_1.length ≤ c0_1) (hr1_0 : Kd.C (Kd.int .i64) w A1_0 l1_0.length l1_0) (hc1_0 : l1_0.length ≤ c1_0) (hr1_1 : Kd.C (Kd.int .i64) w A1_1 l1_1.length l1_1) (hc1_1 : l1_1.length ≤ c1_1) (h : impl_Drop.f k l0_0 l0_1 l1_0 l1_1 = some (r1, r2, r3)) :
  Calls Try.prog 11 #[.agg #[.slice A0_0 l0_0.length c0_0, .slice A0_1 l0_1.length c0_1], .agg #[.slice A1_0 l1_0.length c1_0, .slice A1_1 l1_1.length c1_1]] w fun e w' => ∃ v0_ v1_ : Value, e = .returned (.tuple #[.agg #[v0_, v1_], .int .i64 r3]) ∧ Kd.R (Kd.int .i64) 3 w' w.heap.size (fun k_ => some k_ ≠ (v1_ : Value).ownBlock) v0_ r1 ∧ Kd.R (Kd.int .i64) 3 w' w.heap.size (fun k_ => some k_ ≠ (v0_ : Value).ownBlock) v1_ r2 ∧ Below w.heap.size w w' := by
 have hu26 := Try.underlying26
 have HR0_0 := Aside0.mk hr0_0
 have HC0_0 := Aside0.mk hc0_0
 clear hr0_0 hc0_0
 have HR0_1 := Aside0.mk hr0_1
 have HC0_1 := Aside0.mk hc0_1
 clear hr0_1 hc0_1
 have HR1_0 := Aside0.mk hr1_0
 have HC1_0 := Aside0.mk hc1_0
 clear hr1_0 hc1_0
 have HR1_1 := Aside0.mk hr1_1
 have HC1_1 := Aside0.mk hc1_1
 clear hr1_1 hc1_1
 have HB := Aside0.mk (Below.refl w.heap.size w)
 have H : ((impl_single.f k l0_0 l0_1 l1_0 l1_1).bind fun bt299 => (if bt299.2 = 0 then ((impl_asRows.f l1_0 l1_1).bind fun bt301 => ((impl_Rows.f k bt301.1 bt301.2).bind fun t307 => (if bt299.1 ≥ 0 then (if 0 ≤ (mn (mx bt299.1 (wrap64 (-bt299.1))) (t307.length : Int)) then (if (mn (mx bt299.1 (wrap64 (-bt299.1))) (t307.length : Int)) ≤ (t307.length : Int) then (if 1 ≤ (bt301.1.length : Int) then ((impl_joined.f k (t307.drop ((mn (mx bt299.1 (wrap64 (-bt299.1))) (t307.length : Int)) : Int).toNat) (bt301.1.drop 1)).bind fun bt318 => (some (bt318.1, bt318.2.1, bt318.2.2))) else (none)) else (none)) else (none)) else (if 0 ≤ (wrap64 ((t307.length : Int) - (mn (mx bt299.1 (wrap64 (-bt299.1))) (t307.length : Int)))) then (if (wrap64 ((t307.length : Int) - (mn (mx bt299.1 (wrap64 (-bt299.1))) (t307.length : Int)))) ≤ (t307.length : Int) then (if 1 ≤ (bt301.1.length : Int) then ((impl_joined.f k (t307.take ((wrap64 ((t307.length : Int) - (mn (mx bt299.1 (wrap64 (-bt299.1))) (t307.length : Int)))) : Int).toNat) (bt301.1.drop 1)).bind fun bt333 => (some (bt333.1, bt333.2.1, bt333.2.2))) else (none)) else (none)) else (none))))) else (some (([] : List Int), ([] : List Int), bt299.2)))) = some (r1, r2, r3) := h
 clear h
 replace H := Option.bind_eq_some_iff.mp H
 obtain ⟨⟨t299, t300⟩, A30, H⟩ := H
 replace H : (if t300 = 0 then ((impl_asRows.f l1_0 l1_1).bind fun bt301 => ((impl_Rows.f k bt301.1 bt301.2).bind fun t307 => (if t299 ≥ 0 then (if 0 ≤ (mn (mx t299 (wrap64 (-t299))) (t307.length : Int)) then (if (mn (mx t299 (wrap64 (-t299))) (t307.length : Int)) ≤ (t307.length : Int) then (if 1 ≤ (bt301.1.length : Int) then ((impl_joined.f k (t307.drop ((mn (mx t299 (wrap64 (-t299))) (t307.length : Int)) : Int).toNat) (bt301.1.drop 1)).bind fun bt318 => (some (bt318.1, bt318.2.1, bt318.2.2))) else (none)) else (none)) else (none)) else (if 0 ≤ (wrap64 ((t307.length : Int) - (mn (mx t299 (wrap64 (-t299))) (t307.length : Int)))) then (if (wrap64 ((t307.length : Int) - (mn (mx t299 (wrap64 (-t299))) (t307.length : Int)))) ≤ (t307.length : Int) then (if 1 ≤ (bt301.1.length : Int) then ((impl_joined.f k (t307.take ((wrap64 ((t307.length : Int) - (mn (mx t299 (wrap64 (-t299))) (t307.length : Int)))) : Int).toNat) (bt301.1.drop 1)).bind fun bt333 => (some (bt333.1, bt333.2.1, bt333.2.2))) else (none)) else (none)) else (none))))) else (some (([] : List Int), ([] : List Int), t300))) = some (r1, r2, r3) := H
 have A3 := Aside0.mk A30
 clear A30
 by_cases c4 : t300 = 0
 ·
  rw [if_pos c4] at H
  have c4b0 : (t300 == 0) = true := beq_iff_eq.mpr c4
  have c4b1 : (t300 != 0) = false := bne_eq_false_iff_eq.mpr c4
  clear c4
  replace H := Option.bind_eq_some_iff.mp H
  obtain ⟨⟨t301, t304⟩, A50, H⟩ := H
  replace H : ((impl_Rows.f k t301 t304).bind fun t307 => (if t299 ≥ 0 then (if 0 ≤ (mn (mx t299 (wrap64 (-t299))) (t307.length : Int)) then (if (mn (mx t299 (wrap64 (-t299))) (t307.length : Int)) ≤ (t307.length : Int) then (if 1 ≤ (t301.length : Int) then ((impl_joined.f k (t307.drop ((mn (mx t299 (wrap64 (-t299))) (t307.length : Int)) : Int).toNat) (t301.drop 1)).bind fun bt318 => (some (bt318.1, bt318.2.1, bt318.2.2))) else (none)) else (none)) else (none)) else (if 0 ≤ (wrap64 ((t307.length : Int) - (mn (mx t299 (wrap64 (-t299))) (t307.length : Int)))) then (if (wrap64 ((t307.length : Int) - (mn (mx t299 (wrap64 (-t299))) (t307.length : Int)))) ≤ (t307.length : Int) then (if 1 ≤ (t301.length : Int) then ((impl_joined.f k (t307.take ((wrap64 ((t307.length : Int) - (mn (mx t299 (wrap64 (-t299))) (t307.length : Int)))) : Int).toNat) (t301.drop 1)).bind fun bt333 => (some (bt333.1, bt333.2.1, bt333.2.2))) else (none)) else (none)) else (none)))) = some (r1, r2, r3) := H
  have A5 := Aside0.mk A50
  clear A50
  replace H := Option.bind_eq_some_iff.mp H
  obtain ⟨t307, A60, H⟩ := H
  replace H : (if t299 ≥ 0 then (if 0 ≤ (mn (mx t299 (wrap64 (-t299))) (t307.length : Int)) then (if (mn (mx t299 (wrap64 (-t299))) (t307.length : Int)) ≤ (t307.length : Int) then (if 1 ≤ (t301.length : Int) then ((impl_joined.f k (t307.drop ((mn (mx t299 (wrap64 (-t299))) (t307.length : Int)) : Int).toNat) (t301.drop 1)).bind fun bt318 => (some (bt318.1, bt318.2.1, bt318.2.2))) else (none)) else (none)) else (none)) else (if 0 ≤ (wrap64 ((t307.length : Int) - (mn (mx t299 (wrap64 (-t299))) (t307.length : Int)))) then (if (wrap64 ((t307.length : Int) - (mn (mx t299 (wrap64 (-t299))) (t307.length : Int)))) ≤ (t307.length : Int) then (if 1 ≤ (t301.length : Int) then ((impl_joined.f k (t307.take ((wrap64 ((t307.length : Int) - (mn (mx t299 (wrap64 (-t299))) (t307.length : Int)))) : Int).toNat) (t301.drop 1)).bind fun bt333 => (some (bt333.1, bt333.2.1, bt333.2.2))) else (none)) else (none)) else (none))) = some (r1, r2, r3) := H
  have A6 := Aside0.mk A60
  clear A60
  obtain ⟨ji7, hji7⟩ : ∃ j_ : Int, (mx t299 (wrap64 (-t299))) = j_ := ⟨_, rfl⟩
  replace H : (if t299 ≥ 0 then (if 0 ≤ (mn (ji7) (t307.length : Int)) then (if (mn (ji7) (t307.length : Int)) ≤ (t307.length : Int) then (if 1 ≤ (t301.length : Int) then ((impl_joined.f k (t307.drop ((mn (ji7) (t307.length : Int)) : Int).toNat) (t301.drop 1)).bind fun bt318 => (some (bt318.1, bt318.2.1, bt318.2.2))) else (none)) else (none)) else (none)) else (if 0 ≤ (wrap64 ((t307.length : Int) - (mn (ji7) (t307.length : Int)))) then (if (wrap64 ((t307.length : Int) - (mn (ji7) (t307.length : Int)))) ≤ (t307.length : Int) then (if 1 ≤ (t301.length : Int) then ((impl_joined.f k (t307.take ((wrap64 ((t307.length : Int) - (mn (ji7) (t307.length : Int)))) : Int).toNat) (t301.drop 1)).bind fun bt333 => (some (bt333.1, bt333.2.1, bt333.2.2))) else (none)) else (none)) else (none))) = some (r1, r2, r3) := by first | (rw [hji7] at H; exact H) | (simp only [hji7] at H ⊢; exact H)
  (try rw [hji7] at A3)
  (try rw [hji7] at A5)
  (try rw [hji7] at A6)
  have hji7_ : (if t299 < (wrap64 (-t299)) then (wrap64 (-t299)) else t299) = ji7 := hji7
  obtain ⟨ji8, hji8⟩ : ∃ j_ : Int, (mn (ji7) (t307.length : Int)) = j_ := ⟨_, rfl⟩
  replace H : (if t299 ≥ 0 then (if 0 ≤ (ji8) then (if (ji8) ≤ (t307.length : Int) then (if 1 ≤ (t301.length : Int) then ((impl_joined.f k (t307.drop ((ji8) : Int).toNat) (t301.drop 1)).bind fun bt318 => (some (bt318.1, bt318.2.1, bt318.2.2))) else (none)) else (none)) else (none)) else (if 0 ≤ (wrap64 ((t307.length : Int) - (ji8))) then (if (wrap64 ((t307.length : Int) - (ji8))) ≤ (t307.length : Int) then (if 1 ≤ (t301.length : Int) then ((impl_joined.f k (t307.take ((wrap64 ((t307.length : Int) - (ji8))) : Int).toNat) (t301.drop 1)).bind fun bt333 => (some (bt333.1, bt333.2.1, bt333.2.2))) else (none)) else (none)) else (none))) = some (r1, r2, r3) := by first | (rw [hji8] at H; exact H) | (simp only [hji8] at H ⊢; exact H)
  (try rw [hji8] at A3)
  (try rw [hji8] at A5)
  (try rw [hji8] at A6)
  have hji8_ : (if (t307.length : Int) < (ji7) then (t307.length : Int) else (ji7)) = ji8 := hji8
  by_cases c9 : t299 ≥ 0
  ·
   rw [if_pos c9] at H
   have c9b0 : decide (0 ≤ t299) = true := decide_eq_true c9
   clear c9
   by_cases c10 : 0 ≤ (ji8)
   ·
    rw [if_pos c10] at H
    have c10b0 := eq_true c10
    have c10b1 : decide (0 ≤ (ji8)) = true := decide_eq_true c10
    clear c10
    by_cases c11 : (ji8) ≤ (t307.length : Int)
    ·
     rw [if_pos c11] at H
     have c11b0 := eq_true c11
     have c11b1 : decide ((ji8) ≤ (t307.length : Int)) = true := decide_eq_true c11
     clear c11
     obtain ⟨y310, hy310⟩ : ∃ y_ : List (S26), y_ = (t307.drop ((ji8) : Int).toNat) := ⟨_, rfl⟩
     replace H : (if 1 ≤ (t301.length : Int) then ((impl_joined.f k y310 (t301.drop 1)).bind fun bt318 => (some (bt318.1, bt318.2.1, bt318.2.2))) else (none)) = some (r1, r2, r3) := by first | (rw [hy310]; with_reducible exact H) | (have H2_ := (Option.bind_some _ _).symm.trans H; rw [hy310]; with_reducible exact H2_) | (have H2_ := (Option.bind_some _ _).symm.trans H; with_reducible exact H2_) | with_reducible exact H | (rw [hy310]; exact H) | exact H
     have Ny310 := Aside0.mk hy310
     clear hy310
     by_cases c12 : 1 ≤ (t301.length : Int)
     ·
      rw [if_pos c12] at H
      have c12b0 := eq_true c12
      have c12b1 : decide (1 ≤ (t301.length : Int)) = true := decide_eq_true c12
      clear c12
      obtain ⟨y313, hy313⟩ : ∃ y_ : List Int, y_ = (t301.drop 1) := ⟨_, rfl⟩
      replace H : ((impl_joined.f k y310 y313).bind fun bt318 => (some (bt318.1, bt318.2.1, bt318.2.2))) = some (r1, r2, r3) := by first | (rw [hy313]; with_reducible exact H) | (have H2_ := (Option.bind_some _ _).symm.trans H; rw [hy313]; with_reducible exact H2_) | (have H2_ := (Option.bind_some _ _).symm.trans H; with_reducible exact H2_) | with_reducible exact H | (rw [hy313]; exact H) | exact H
      have Ny313 := Aside0.mk hy313
      clear hy313
      replace H := Option.bind_eq_some_iff.mp H
      obtain ⟨⟨t318, t321, t324⟩, A130, H⟩ := H
      replace H : (some (t318, t321, t324)) = some (r1, r2, r3) := H
      have A13 := Aside0.mk A130
      clear A130
      simp only [Option.some.injEq, Prod.mk.injEq] at H
      obtain ⟨rfl, rfl, rfl⟩ := H
      go_enter Try.func11, Try.ntmps11
      go_wp2_with (first | ((with_reducible refine gate_dst (N := 2) rfl ?_); refine box_event ?hg (N := 2) ?hd (cs := #[.slice A0_0 l0_0.length c0_0, .slice A0_1 l0_1.length c0_1]) (t := 26) ?hr ?_; (case hd => rfl); (case hg => rfl); (case hr => first | (go_simp; done) | (go_simp; rfl)); intro gb296 hg w14 hbox hb; have BK296 := Aside0.mk (hbox); have GW296 := Aside0.mk ((by rw [hg]; exact (below_size (bU HB.out)) : w.heap.size ≤ gb296)); have GE296 := Aside0.mk ((by rw [hg]; exact (below_size (bU HB.out)) : w.heap.size ≤ gb296)); replace HB := Aside0.mk (below_step (bU HB.out) hb); clear hb hbox hg) | ((with_reducible refine gate_dst (N := 3) rfl ?_); refine box_event ?hg (N := 3) ?hd (cs := #[.slice A1_0 l1_0.length c1_0, .slice A1_1 l1_1.length c1_1]) (t := 26) ?hr ?_; (case hd => rfl); (case hg => rfl); (case hr => first | (go_simp; done) | (go_simp; rfl)); intro gb297 hg w15 hbox hb; have BK297 := Aside0.mk (hbox); have GW297 := Aside0.mk ((by rw [hg]; exact (below_size (bS1 HB.out GE296.out)) : w.heap.size ≤ gb297)); have GE297 := Aside0.mk ((by rw [hg]; exact (below_size (bS1 HB.out GE296.out)) : w.heap.size ≤ gb297)); replace HB := Aside0.mk (below_step (bS1 HB.out GE296.out) hb); have NB296_297 := Aside0.mk ((by rw [hg]; exact Nat.ne_of_lt (blk_lt (g := gb296) (o := .cells #[.slice A0_0 l0_0.length c0_0, .slice A0_1 l0_1.length c0_1] 26 (0, 0)) (kU BK296.out)) : gb296 ≠ gb297)); have NB297_296 := Aside0.mk ((by rw [hg]; exact Nat.ne_of_gt (blk_lt (g := gb296) (o := .cells #[.slice A0_0 l0_0.length c0_0, .slice A0_1 l0_1.length c0_1] 26 (0, 0)) (kU BK296.out)) : gb297 ≠ gb296)); replace BK296 := Aside0.mk (blk_below (g := gb296) (o := .cells #[.slice A0_0 l0_0.length c0_0, .slice A0_1 l0_1.length c0_1] 26 (0, 0)) (kU BK296.out) hb); clear hb hbox hg) | ((with_reducible refine gate_dst (N := 4) rfl ?_); refine box_event ?hg (N := 4) ?hd (cs := #[.slice none 0 0, .slice none 0 0]) (t := 26) ?hr ?_; (case hd => rfl); (case hg => rfl); (case hr => first | (go_simp; done) | (go_simp; rfl)); intro gb298 hg w16 hbox hb; have BK298 := Aside0.mk (hbox); have GW298 := Aside0.mk ((by rw [hg]; exact (below_size (bS2 HB.out GE296.out GE297.out)) : w.heap.size ≤ gb298)); have GE298 := Aside0.mk ((by rw [hg]; exact (below_size (bS2 HB.out GE296.out GE297.out)) : w.heap.size ≤ gb298)); replace HB := Aside0.mk (below_step (bS2 HB.out GE296.out GE297.out) hb); have NB296_298 := Aside0.mk ((by rw [hg]; exact Nat.ne_of_lt (blk_lt (g := gb296) (o := .cells #[.slice A0_0 l0_0.length c0_0, .slice A0_1 l0_1.length c0_1] 26 (0, 0)) (kU BK296.out)) : gb296 ≠ gb298)); have NB298_296 := Aside0.mk ((by rw [hg]; exact Nat.ne_of_gt (blk_lt (g := gb296) (o := .cells #[.slice A0_0 l0_0.length c0_0, .slice A0_1 l0_1.length c0_1] 26 (0, 0)) (kU BK296.out)) : gb298 ≠ gb296)); replace BK296 := Aside0.mk (blk_below (g := gb296) (o := .cells #[.slice A0_0 l0_0.length c0_0, .slice A0_1 l0_1.length c0_1] 26 (0, 0)) (kU BK296.out) hb); have NB297_298 := Aside0.mk ((by rw [hg]; exact Nat.ne_of_lt (blk_lt (g := gb297) (o := .cells #[.slice A1_0 l1_0.length c1_0, .slice A1_1 l1_1.length c1_1] 26 (0, 0)) (kU BK297.out)) : gb297 ≠ gb298)); have NB298_297 := Aside0.mk ((by rw [hg]; exact Nat.ne_of_gt (blk_lt (g := gb297) (o := .cells #[.slice A1_0 l1_0.length c1_0, .slice A1_1 l1_1.length c1_1] 26 (0, 0)) (kU BK297.out)) : gb298 ≠ gb297)); replace BK297 := Aside0.mk (blk_below (g := gb297) (o := .cells #[.slice A1_0 l1_0.length c1_0, .slice A1_1 l1_1.length c1_1] 26 (0, 0)) (kU BK297.out) hb); clear hb hbox hg; have hnb17 := NB296_297.out; have hnc17 := NB297_296.out; have hnb18 := NB296_298.out; have hnc18 := NB298_296.out; have hcz19_0 : w16.cell? ⟨gb296, 0, none⟩ = some (.slice A0_0 l0_0.length c0_0) := (blk_cell BK296.out 0).trans rfl; have hcz19_1 : w16.cell? ⟨gb296, 1, none⟩ = some (.slice A0_1 l0_1.length c0_1) := (blk_cell BK296.out 1).trans rfl; have hfz19_0 := blk_frozen BK296.out 0; have hfz19_1 := blk_frozen BK296.out 1; have hnb20 := NB297_298.out; have hnc20 := NB298_297.out; have hcz21_0 : w16.cell? ⟨gb297, 0, none⟩ = some (.slice A1_0 l1_0.length c1_0) := (blk_cell BK297.out 0).trans rfl; have hcz21_1 : w16.cell? ⟨gb297, 1, none⟩ = some (.slice A1_1 l1_1.length c1_1) := (blk_cell BK297.out 1).trans rfl; have hfz21_0 := blk_frozen BK297.out 0; have hfz21_1 := blk_frozen BK297.out 1) | ((with_reducible refine gate_callee (f := 35) rfl ?_); refine goesL_ (some 13) rfl rfl Try.func35 (by kernel_rfl) rfl #[.agg #[.slice A0_0 l0_0.length c0_0, .slice A0_1 l0_1.length c0_1], .agg #[.slice A1_0 l1_0.length c1_0, .slice A1_1 l1_1.length c1_1]] rfl (by (try simp only [List.map_toArray, List.map_cons, List.map_nil]); first | done | rfl | (simp only [List.length_drop, List.length_take]; rfl)) ?_; (with_reducible refine (impl_single.calls k _ _ l0_0 _ _ l0_1 _ _ l1_0 _ _ l1_1 t299 t300 _ ?side1 ?side2 ?side3 ?side4 ?side5 ?side6 ?side7 ?side8 A3.out).mono ?_); (case side1 => exact cU (Kd.C_below HR0_0.out HB.out)); (case side2 => exact HC0_0.out); (case side3 => exact cU (Kd.C_below HR0_1.out HB.out)); (case side4 => exact HC0_1.out); (case side5 => exact cU (Kd.C_below HR1_0.out HB.out)); (case side6 => exact HC1_0.out); (case side7 => exact cU (Kd.C_below HR1_1.out HB.out)); (case side8 => exact HC1_1.out); rintro e w22 ⟨rfl, hb⟩; refine ⟨_, rfl, ?_⟩; replace BK296 := Aside0.mk (blk_below (g := gb296) (o := .cells #[.slice A0_0 l0_0.length c0_0, .slice A0_1 l0_1.length c0_1] 26 (0, 0)) (kU BK296.out) hb); replace BK297 := Aside0.mk (blk_below (g := gb297) (o := .cells #[.slice A1_0 l1_0.length c1_0, .slice A1_1 l1_1.length c1_1] 26 (0, 0)) (kU BK297.out) hb); replace BK298 := Aside0.mk (blk_below (g := gb298) (o := .cells #[.slice none 0 0, .slice none 0 0] 26 (0, 0)) (kU BK298.out) hb); replace HB := Aside0.mk (below_step (bS3 HB.out GE296.out GE297.out GE298.out) hb); (try clear hb); (try clear hb2); (try clear hk); (try clear hi); have hcz23_0 : w22.cell? ⟨gb297, 0, none⟩ = some (.slice A1_0 l1_0.length c1_0) := (blk_cell BK297.out 0).trans rfl; have hcz23_1 : w22.cell? ⟨gb297, 1, none⟩ = some (.slice A1_1 l1_1.length c1_1) := (blk_cell BK297.out 1).trans rfl; have hfz23_0 := blk_frozen BK297.out 0; have hfz23_1 := blk_frozen BK297.out 1) | ((with_reducible refine gate_callee (f := 36) rfl ?_); refine goesL_ (some 21) rfl rfl Try.func36 (by kernel_rfl) rfl #[.agg #[.slice A1_0 l1_0.length c1_0, .slice A1_1 l1_1.length c1_1]] rfl (by (try simp only [List.map_toArray, List.map_cons, List.map_nil]); first | done | rfl | (simp only [List.length_drop, List.length_take]; rfl)) ?_; (with_reducible refine (impl_asRows.calls (fun k_ => k_ < w.heap.size) _ _ l1_0 (fun k_ => k_ < w.heap.size) _ _ l1_1 t301 t304 _ ?side1 ?side2 A5.out).mono ?_); (case side1 => exact Kd.V_mk HC1_0.out (Kd.F_below (Kd.C_F (Kd.heap_int .i64) HR1_0.out) (bS3 HB.out GE296.out GE297.out GE298.out))); (case side2 => exact Kd.V_mk HC1_1.out (Kd.F_below (Kd.C_F (Kd.heap_int .i64) HR1_1.out) (bS3 HB.out GE296.out GE297.out GE298.out))); rintro e w24 ⟨v302, v305, rfl, ho0, ho1, hb⟩; refine ⟨_, rfl, ?_⟩; have HO303 := Aside0.mk (Kd.V_lower (Kd.V_mono (ok' := fun k_ => k_ ≠ gb296 ∧ k_ ≠ gb297 ∧ k_ ≠ gb298) ho0 (fun k_ hk_ => ⟨Or.elim hk_ (fun hs_ => Or.elim hs_ (fun hs_ => fun e_ => Nat.not_le.2 hs_ (by rw [e_]; exact GW296.out)) (fun hs_ => fun e_ => Nat.not_le.2 hs_ (by rw [e_]; exact GW296.out))) (fun hn_ => (Kd.freshB (g := gb296) (o := .cells #[.slice A0_0 l0_0.length c0_0, .slice A0_1 l0_1.length c0_1] 26 (0, 0)) (kU BK296.out) k_ hn_)), Or.elim hk_ (fun hs_ => Or.elim hs_ (fun hs_ => fun e_ => Nat.not_le.2 hs_ (by rw [e_]; exact GW297.out)) (fun hs_ => fun e_ => Nat.not_le.2 hs_ (by rw [e_]; exact GW297.out))) (fun hn_ => (Kd.freshB (g := gb297) (o := .cells #[.slice A1_0 l1_0.length c1_0, .slice A1_1 l1_1.length c1_1] 26 (0, 0)) (kU BK297.out) k_ hn_)), Or.elim hk_ (fun hs_ => Or.elim hs_ (fun hs_ => fun e_ => Nat.not_le.2 hs_ (by rw [e_]; exact GW298.out)) (fun hs_ => fun e_ => Nat.not_le.2 hs_ (by rw [e_]; exact GW298.out))) (fun hn_ => (Kd.freshB (g := gb298) (o := .cells #[.slice none 0 0, .slice none 0 0] 26 (0, 0)) (kU BK298.out) k_ hn_))⟩)) (below_size (bS3 HB.out GE296.out GE297.out GE298.out))); have HO306 := Aside0.mk (Kd.V_lower (Kd.V_mono (ok' := fun k_ => k_ ≠ gb296 ∧ k_ ≠ gb297 ∧ k_ ≠ gb298) ho1 (fun k_ hk_ => ⟨Or.elim hk_ (fun hs_ => Or.elim hs_ (fun hs_ => fun e_ => Nat.not_le.2 hs_ (by rw [e_]; exact GW296.out)) (fun hs_ => fun e_ => Nat.not_le.2 hs_ (by rw [e_]; exact GW296.out))) (fun hn_ => (Kd.freshB (g := gb296) (o := .cells #[.slice A0_0 l0_0.length c0_0, .slice A0_1 l0_1.length c0_1] 26 (0, 0)) (kU BK296.out) k_ hn_)), Or.elim hk_ (fun hs_ => Or.elim hs_ (fun hs_ => fun e_ => Nat.not_le.2 hs_ (by rw [e_]; exact GW297.out)) (fun hs_ => fun e_ => Nat.not_le.2 hs_ (by rw [e_]; exact GW297.out))) (fun hn_ => (Kd.freshB (g := gb297) (o := .cells #[.slice A1_0 l1_0.length c1_0, .slice A1_1 l1_1.length c1_1] 26 (0, 0)) (kU BK297.out) k_ hn_)), Or.elim hk_ (fun hs_ => Or.elim hs_ (fun hs_ => fun e_ => Nat.not_le.2 hs_ (by rw [e_]; exact GW298.out)) (fun hs_ => fun e_ => Nat.not_le.2 hs_ (by rw [e_]; exact GW298.out))) (fun hn_ => (Kd.freshB (g := gb298) (o := .cells #[.slice none 0 0, .slice none 0 0] 26 (0, 0)) (kU BK298.out) k_ hn_))⟩)) (below_size (bS3 HB.out GE296.out GE297.out GE298.out))); replace BK296 := Aside0.mk (blk_below (g := gb296) (o := .cells #[.slice A0_0 l0_0.length c0_0, .slice A0_1 l0_1.length c0_1] 26 (0, 0)) (kU BK296.out) hb); replace BK297 := Aside0.mk (blk_below (g := gb297) (o := .cells #[.slice A1_0 l1_0.length c1_0, .slice A1_1 l1_1.length c1_1] 26 (0, 0)) (kU BK297.out) hb); replace BK298 := Aside0.mk (blk_below (g := gb298) (o := .cells #[.slice none 0 0, .slice none 0 0] 26 (0, 0)) (kU BK298.out) hb); replace HB := Aside0.mk (below_step (bS3 HB.out GE296.out GE297.out GE298.out) hb); (try clear hb); (try clear hb2); (try clear hk); (try clear hi); (try clear ho0); (try clear ho1); obtain ⟨Ao25, co25, eo25⟩ := Kd.V_slice HO303.out; subst eo25; have hcz26_0 : w24.cell? ⟨gb297, 0, none⟩ = some (.slice A1_0 l1_0.length c1_0) := (blk_cell BK297.out 0).trans rfl; have hcz26_1 : w24.cell? ⟨gb297, 1, none⟩ = some (.slice A1_1 l1_1.length c1_1) := (blk_cell BK297.out 1).trans rfl; have hfz26_0 := blk_frozen BK297.out 0; have hfz26_1 := blk_frozen BK297.out 1; obtain ⟨Ao27, co27, eo27⟩ := Kd.V_slice HO306.out; subst eo27) | ((with_reducible refine gate_callee (f := 37) rfl ?_); refine goesL_ (some 23) rfl rfl Try.func37 (by kernel_rfl) rfl #[.agg #[.slice Ao25 t301.length co25, .slice Ao27 t304.length co27]] rfl (by (try simp only [List.map_toArray, List.map_cons, List.map_nil]); first | done | rfl | (simp only [List.length_drop, List.length_take]; rfl)) ?_; (with_reducible refine (impl_Rows.calls k _ _ t301 _ _ t304 t307 _ ?side1 ?side2 ?side3 ?side4 A6.out).mono ?_); (case side1 => refine (Kd.V_reads' (e := 3) (base := w.heap.size) (ok := fun k_ => (k_ ≠ gb296 ∧ (k_ ≠ gb297 ∧ k_ ≠ gb298))) (n := t301.length) (c := co25) ?_).2.2; exact (by (with_reducible repeat (first | apply Kd.V_alloc | apply Kd.V_drewN | apply Kd.V_drew)); exact (Kd.V_mono (Kd.V_far (p := ⟨gb297, 1, none⟩) (Kd.V_far (p := ⟨gb297, 0, none⟩) (Kd.V_mono HO303.out (fun k_ hk => (⟨hk, hk.2.1⟩ : _ ∧ k_ ≠ gb297))) (fun _ hk => hk.2) (.slice Ao25 t301.length co25)) (fun _ hk => hk.2) (.slice Ao27 t304.length co27)) (fun _ h_ => h_.1)))); (case side2 => exact (Kd.V_reads' HO303.out).2.1); (case side3 => refine (Kd.V_reads' (e := 3) (base := w.heap.size) (ok := fun k_ => (k_ ≠ gb296 ∧ (k_ ≠ gb297 ∧ k_ ≠ gb298))) (n := t304.length) (c := co27) ?_).2.2; exact (by (with_reducible repeat (first | apply Kd.V_alloc | apply Kd.V_drewN | apply Kd.V_drew)); exact (Kd.V_mono (Kd.V_far (p := ⟨gb297, 1, none⟩) (Kd.V_far (p := ⟨gb297, 0, none⟩) (Kd.V_mono HO306.out (fun k_ hk => (⟨hk, hk.2.1⟩ : _ ∧ k_ ≠ gb297))) (fun _ hk => hk.2) (.slice Ao25 t301.length co25)) (fun _ hk => hk.2) (.slice Ao27 t304.length co27)) (fun _ h_ => h_.1)))); (case side4 => exact (Kd.V_reads' HO306.out).2.1); rintro e w28 ⟨v308, rfl, ho0, hb⟩; refine ⟨_, rfl, ?_⟩; replace HO303 := Aside0.mk (Kd.V_elder' (by (with_reducible repeat (first | apply Kd.V_alloc | apply Kd.V_drewN | apply Kd.V_drew)); exact (Kd.V_mono (Kd.V_far (p := ⟨gb297, 1, none⟩) (Kd.V_far (p := ⟨gb297, 0, none⟩) (Kd.V_mono HO303.out (fun k_ hk => (⟨hk, hk.2.1⟩ : _ ∧ k_ ≠ gb297))) (fun _ hk => hk.2) (.slice Ao25 t301.length co25)) (fun _ hk => hk.2) (.slice Ao27 t304.length co27)) (fun _ h_ => h_.1))) (Kd.S_base ho0) hb); replace HO306 := Aside0.mk (Kd.V_elder' (by (with_reducible repeat (first | apply Kd.V_alloc | apply Kd.V_drewN | apply Kd.V_drew)); exact (Kd.V_mono (Kd.V_far (p := ⟨gb297, 1, none⟩) (Kd.V_far (p := ⟨gb297, 0, none⟩) (Kd.V_mono HO306.out (fun k_ hk => (⟨hk, hk.2.1⟩ : _ ∧ k_ ≠ gb297))) (fun _ hk => hk.2) (.slice Ao25 t301.length co25)) (fun _ hk => hk.2) (.slice Ao27 t304.length co27)) (fun _ h_ => h_.1))) (Kd.S_base ho0) hb); have HO309 := Aside0.mk (Kd.S_lower (Kd.S_newB (Kd.S_newB (Kd.S_newB ho0 (g := gb296) (o := .cells #[.slice A0_0 l0_0.length c0_0, .slice A0_1 l0_1.length c0_1] 26 (0, 0)) (by (with_reducible repeat (first | refine blk_drewN ?_ _ | refine blk_drew ?_ | refine blk_alloc ?_ _)); refine blk_far ?_ NB296_297.out _; (with_reducible repeat (first | refine blk_drewN ?_ _ | refine blk_drew ?_ | refine blk_alloc ?_ _)); refine blk_far ?_ NB296_297.out _; (with_reducible repeat (first | refine blk_drewN ?_ _ | refine blk_drew ?_ | refine blk_alloc ?_ _)); exact BK296.out)) (g := gb297) (o := .cells #[.slice Ao25 t301.length co25, .slice Ao27 t304.length co27] 26 (0, 0)) (by (with_reducible repeat (first | refine blk_drewN ?_ _ | refine blk_drew ?_ | refine blk_alloc ?_ _)); refine blk_put (cs := #[.slice Ao25 t301.length co25, .slice A1_1 l1_1.length c1_1]) ?_ 1 _ rfl; (with_reducible repeat (first | refine blk_drewN ?_ _ | refine blk_drew ?_ | refine blk_alloc ?_ _)); refine blk_put (cs := #[.slice A1_0 l1_0.length c1_0, .slice A1_1 l1_1.length c1_1]) ?_ 0 _ rfl; (with_reducible repeat (first | refine blk_drewN ?_ _ | refine blk_drew ?_ | refine blk_alloc ?_ _)); exact BK297.out)) (g := gb298) (o := .cells #[.slice none 0 0, .slice none 0 0] 26 (0, 0)) (by (with_reducible repeat (first | refine blk_drewN ?_ _ | refine blk_drew ?_ | refine blk_alloc ?_ _)); refine blk_far ?_ NB298_297.out _; (with_reducible repeat (first | refine blk_drewN ?_ _ | refine blk_drew ?_ | refine blk_alloc ?_ _)); refine blk_far ?_ NB298_297.out _; (with_reducible repeat (first | refine blk_drewN ?_ _ | refine blk_drew ?_ | refine blk_alloc ?_ _)); exact BK298.out)) (below_size (bS3 HB.out GE296.out GE297.out GE298.out))); replace BK296 := Aside0.mk (blk_below (g := gb296) (o := .cells #[.slice A0_0 l0_0.length c0_0, .slice A0_1 l0_1.length c0_1] 26 (0, 0)) (by (with_reducible repeat (first | refine blk_drewN ?_ _ | refine blk_drew ?_ | refine blk_alloc ?_ _)); refine blk_far ?_ NB296_297.out _; (with_reducible repeat (first | refine blk_drewN ?_ _ | refine blk_drew ?_ | refine blk_alloc ?_ _)); refine blk_far ?_ NB296_297.out _; (with_reducible repeat (first | refine blk_drewN ?_ _ | refine blk_drew ?_ | refine blk_alloc ?_ _)); exact BK296.out) hb); replace BK297 := Aside0.mk (blk_below (g := gb297) (o := .cells #[.slice Ao25 t301.length co25, .slice Ao27 t304.length co27] 26 (0, 0)) (by (with_reducible repeat (first | refine blk_drewN ?_ _ | refine blk_drew ?_ | refine blk_alloc ?_ _)); refine blk_put (cs := #[.slice Ao25 t301.length co25, .slice A1_1 l1_1.length c1_1]) ?_ 1 _ rfl; (with_reducible repeat (first | refine blk_drewN ?_ _ | refine blk_drew ?_ | refine blk_alloc ?_ _)); refine blk_put (cs := #[.slice A1_0 l1_0.length c1_0, .slice A1_1 l1_1.length c1_1]) ?_ 0 _ rfl; (with_reducible repeat (first | refine blk_drewN ?_ _ | refine blk_drew ?_ | refine blk_alloc ?_ _)); exact BK297.out) hb); replace BK298 := Aside0.mk (blk_below (g := gb298) (o := .cells #[.slice none 0 0, .slice none 0 0] 26 (0, 0)) (by (with_reducible repeat (first | refine blk_drewN ?_ _ | refine blk_drew ?_ | refine blk_alloc ?_ _)); refine blk_far ?_ NB298_297.out _; (with_reducible repeat (first | refine blk_drewN ?_ _ | refine blk_drew ?_ | refine blk_alloc ?_ _)); refine blk_far ?_ NB298_297.out _; (with_reducible repeat (first | refine blk_drewN ?_ _ | refine blk_drew ?_ | refine blk_alloc ?_ _)); exact BK298.out) hb); replace HB := Aside0.mk (below_step (bS3 HB.out GE296.out GE297.out GE298.out) hb); (try clear hb); (try clear hb2); (try clear hk); (try clear hi); (try clear ho0); obtain ⟨Ao29, co29, eo29⟩ := Kd.S_slice HO309.out; subst eo29; have n_ := Aside0.mk (Kd.S_mono (ok' := (fun k_ => k_ ≠ gb296 ∧ k_ ≠ gb297 ∧ k_ ≠ gb298)) HO309.out (fun k_ hk => ⟨hk.1.1.2, ⟨hk.1.2, hk.2⟩⟩)); clear HO309; have HO309 := n_; clear n_; have q30 : ((ji8) : Int) ≤ ((t307.length : Int) : Int) := of_decide_eq_true (by first | (with_reducible assumption) | assumption); obtain ⟨i030, hi030, _, hsz30, _⟩ := info_parts info26; have hcut30 := cut_from (P := Try.prog) 45 26 .i64 Try.underlying45 hi030 2 hsz30 Ao29 t307.length co29 (ji8) (of_decide_eq_true (by first | (with_reducible assumption) | assumption)) q30; have hr30 := Kd.Q_drop (k := ((ji8) : Int).toNat) (Kd.Q_of_R (Kd.S_R HO309.out)) (by omega); obtain ⟨A30, hA30⟩ : ∃ A1, A1 = (if co29 = ((ji8) : Int).toNat then Ao29 else (Ao29 : Option Addr).map (·.add (((ji8) : Int).toNat * 2))) := ⟨_, rfl⟩; obtain ⟨c30, hc30⟩ : ∃ c1, c1 = co29 - ((ji8) : Int).toNat := ⟨_, rfl⟩; have hy30 : y310.length = t307.length - ((ji8) : Int).toNat := (by rw [Ny310.out, List.length_drop]); rw [← Ny310.out] at hr30; rw [← hy30, ← hA30, ← hc30] at hcut30; replace hr30 : Kd.Q k26 26 w28 w.heap.size (fun k_ => k_ ≠ gb296 ∧ k_ ≠ gb297 ∧ k_ ≠ gb298) (.slice A30 y310.length c30) y310 := (by rw [hA30, hc30, hy30]; exact hr30); have HE30 : Aside0 ((Value.slice A30 y310.length c30).ownBlock = (.slice Ao29 t307.length co29 : Value).ownBlock) := ⟨by rw [hA30]; split <;> (cases (Ao29 : Option Addr) <;> first | rfl | (simp [Value.ownBlock, add_block]; done))⟩; clear hy30 hi030 hsz30 HO309 hA30 hc30; have HO312 := Aside0.mk hr30; clear hr30; replace q30 := eq_true q30; have n_ := Aside0.mk (Kd.V_mono (ok' := fun k_ => ((k_ ≠ gb296 ∧ (k_ ≠ gb297 ∧ k_ ≠ gb298)) ∧ some k_ ≠ (.slice A30 y310.length c30 : Value).ownBlock)) HO303.out (fun k_ hk => ⟨⟨hk.1.1, ⟨hk.1.2.1, hk.1.2.2⟩⟩, (by rw [HE30.out]; exact hk.2)⟩)); clear HO303; have HO303 := n_; clear n_; have n_ := Aside0.mk (Kd.V_mono (ok' := fun k_ => ((k_ ≠ gb296 ∧ (k_ ≠ gb297 ∧ k_ ≠ gb298)) ∧ some k_ ≠ (.slice A30 y310.length c30 : Value).ownBlock)) HO306.out (fun k_ hk => ⟨⟨hk.1.1, ⟨hk.1.2.1, hk.1.2.2⟩⟩, (by rw [HE30.out]; exact hk.2)⟩)); clear HO306; have HO306 := n_; clear n_; have hcz31_0 : w28.cell? ⟨gb297, 0, none⟩ = some (.slice Ao25 t301.length co25) := (blk_cell BK297.out 0).trans rfl; have hcz31_1 : w28.cell? ⟨gb297, 1, none⟩ = some (.slice Ao27 t304.length co27) := (blk_cell BK297.out 1).trans rfl; have hfz31_0 := blk_frozen BK297.out 0; have hfz31_1 := blk_frozen BK297.out 1; have q32 : (1 : Int) ≤ ((t301.length : Int) : Int) := of_decide_eq_true (by first | (with_reducible assumption) | assumption); obtain ⟨i032, hi032, _, hsz32, _⟩ := info_parts info3; have hroom32 : t301.length ≤ co25 := (Kd.V_reads' HO303.out).2.1; have hC32 : Kd.F (Kd.int .i64) _ _ Ao25 t301.length t301 := (Kd.V_at (base := w.heap.size) HO303.out).2.2; have hcut32 := cut_from (P := Try.prog) 22 3 .i64 Try.underlying22 hi032 1 hsz32 Ao25 t301.length co25 1 (by omega) q32; have hr32 := Kd.F_cut (m := (1 : Int).toNat) (c := co25) hC32 (by omega) hroom32; obtain ⟨A32, hA32⟩ : ∃ A1, A1 = (if co25 = (1 : Int).toNat then Ao25 else (Ao25 : Option Addr).map (·.add ((1 : Int).toNat * 1))) := ⟨_, rfl⟩; obtain ⟨c32, hc32⟩ : ∃ c1, c1 = co25 - (1 : Int).toNat := ⟨_, rfl⟩; have hy32 : y313.length = t301.length - (1 : Int).toNat := (by rw [Ny313.out, List.length_drop] <;> omega); rw [show (t301).drop (1 : Int).toNat = y313 from Ny313.out.symm] at hr32; replace hr32 : Kd.F (Kd.int .i64) _ _ A32 y313.length y313 := (by rw [hA32]; exact hr32); rw [← hy32, ← hA32, ← hc32] at hcut32; have HO317 := Aside0.mk (show Kd.V (Kd.int .i64) 3 _ w.heap.size _ (.slice A32 y313.length c32) y313 from Kd.V_mk (by rw [hy32, hc32]; exact Nat.sub_le_sub_right hroom32 _) hr32); have HC317 := Aside0.mk (show y313.length ≤ c32 from by rw [hy32, hc32]; exact Nat.sub_le_sub_right hroom32 _); clear hr32 hC32 hroom32 hi032 hsz32 hc32; have KY32 := Aside0.mk hy32; have KA32 := Aside0.mk hA32; clear hy32 hA32; replace q32 := eq_true q32) | ((with_reducible refine gate_callee (f := 38) rfl ?_); refine goesL_ (some 46) rfl rfl Try.func38 (by kernel_rfl) rfl #[.slice A30 y310.length c30, .slice A32 y313.length c32] rfl (by (try simp only [List.map_toArray, List.map_cons, List.map_nil]); first | done | rfl | (simp only [List.length_drop, List.length_take]; rfl)) ?_; (with_reducible refine (impl_joined.calls k _ _ y310 _ _ y313 t318 t321 t324 _ ?side1 ?side2 ?side3 ?side4 A13.out).mono ?_); (case side1 => exact cU (Kd.Q_reads' HO312.out).2.2); (case side2 => exact (Kd.Q_reads' HO312.out).2.1); (case side3 => exact cU (Kd.V_reads' HO317.out).2.2); (case side4 => exact (Kd.V_reads' HO317.out).2.1); rintro e w33 ⟨v319, v322, rfl, ho0, ho1, hb⟩; refine ⟨_, rfl, ?_⟩; replace HO303 := Aside0.mk (Kd.V_mono (Kd.V_told (Kd.V_told (Kd.V_old (VU HO303.out) hb) (Kd.R_base ho0)) (Kd.R_base ho1)) (fun _ h_ => h_.1)); replace HO306 := Aside0.mk (Kd.V_mono (Kd.V_told (Kd.V_told (Kd.V_old (VU HO306.out) hb) (Kd.R_base ho0)) (Kd.R_base ho1)) (fun _ h_ => h_.1)); replace HO312 := Aside0.mk (Kd.Q_mono (Kd.Q_told (Kd.Q_told (Kd.Q_old (by (with_reducible repeat (first | apply Kd.Q_alloc | apply Kd.Q_drewN | apply Kd.Q_drew)); exact HO312.out) hb) (Kd.R_base ho0)) (Kd.R_base ho1)) (fun _ h_ => h_.1)); replace HO317 := Aside0.mk (Kd.V_mono (Kd.V_told (Kd.V_told (Kd.V_old (VU HO317.out) hb) (Kd.R_base ho0)) (Kd.R_base ho1)) (fun _ h_ => h_.1)); have HO320 := Aside0.mk (Kd.R_lower ho0 (below_size (bS3 HB.out GE296.out GE297.out GE298.out))); have HO323 := Aside0.mk (Kd.R_lower ho1 (below_size (bS3 HB.out GE296.out GE297.out GE298.out))); replace BK296 := Aside0.mk (blk_below (g := gb296) (o := .cells #[.slice A0_0 l0_0.length c0_0, .slice A0_1 l0_1.length c0_1] 26 (0, 0)) (kU BK296.out) hb); replace BK297 := Aside0.mk (blk_below (g := gb297) (o := .cells #[.slice Ao25 t301.length co25, .slice Ao27 t304.length co27] 26 (0, 0)) (kU BK297.out) hb); replace BK298 := Aside0.mk (blk_below (g := gb298) (o := .cells #[.slice none 0 0, .slice none 0 0] 26 (0, 0)) (kU BK298.out) hb); replace HB := Aside0.mk (below_step (bS3 HB.out GE296.out GE297.out GE298.out) hb); (try clear hb); (try clear hb2); (try clear hk); (try clear hi); (try clear ho0); (try clear ho1); obtain ⟨Ao34, co34, eo34⟩ := Kd.R_slice HO320.out; subst eo34; have hcz35_0 : w33.cell? ⟨gb298, 0, none⟩ = some (.slice none 0 0) := (blk_cell BK298.out 0).trans rfl; have hcz35_1 : w33.cell? ⟨gb298, 1, none⟩ = some (.slice none 0 0) := (blk_cell BK298.out 1).trans rfl; have hfz35_0 := blk_frozen BK298.out 0; have hfz35_1 := blk_frozen BK298.out 1; obtain ⟨Ao36, co36, eo36⟩ := Kd.R_slice HO323.out; subst eo36))
      refine bodyPost_ret (results_ct rfl _ _ gb298 26 #[.slice Ao34 t318.length co34, .slice Ao36 t321.length co36] (0, 0) _ rfl (by (with_reducible repeat (first | refine blk_drewN ?_ _ | refine blk_drew ?_ | refine blk_alloc ?_ _)); refine blk_put (cs := #[.slice Ao34 t318.length co34, .slice none 0 0]) ?_ 1 _ rfl; (with_reducible repeat (first | refine blk_drewN ?_ _ | refine blk_drew ?_ | refine blk_alloc ?_ _)); refine blk_put (cs := #[.slice none 0 0, .slice none 0 0]) ?_ 0 _ rfl; (with_reducible repeat (first | refine blk_drewN ?_ _ | refine blk_drew ?_ | refine blk_alloc ?_ _)); exact BK298.out) Try.underlying26 rfl (by kernel_rfl)) rfl ?_
      exact ⟨_, _, by first | rfl | (simp [errW_none, errW_some] <;> rfl) | (simp only [← hji7, ← hji8]; first | rfl | (simp [errW_none, errW_some] <;> rfl)) | (simp [*, errW_none, errW_some] <;> rfl), by (with_reducible repeat (first | apply Kd.R_alloc | apply Kd.R_drewN | apply Kd.R_drew)); exact Kd.R_mono (Kd.R_far (p := ⟨gb298, 1, none⟩) (Kd.R_far (p := ⟨gb298, 0, none⟩) (Kd.R_types HO320.out BK298.out (by decide)) (fun _ hk => hk.2) (.slice Ao34 t318.length co34)) (fun _ hk => hk.2) (.slice Ao36 t321.length co36)) (fun _ hk => hk.1), by (with_reducible repeat (first | apply Kd.R_alloc | apply Kd.R_drewN | apply Kd.R_drew)); exact Kd.R_mono (Kd.R_far (p := ⟨gb298, 1, none⟩) (Kd.R_far (p := ⟨gb298, 0, none⟩) (Kd.R_types HO323.out BK298.out (by decide)) (fun _ hk => hk.2) (.slice Ao34 t318.length co34)) (fun _ hk => hk.2) (.slice Ao36 t321.length co36)) (fun _ hk => hk.1), by repeat (first | (with_reducible first | exact HB.out | apply below_alloc | apply pw_below_drewN | apply below_drew1 | refine below_set ?_ GE296.out | refine below_set ?_ GE297.out | refine below_set ?_ GE298.out) | exact HB.out)⟩
     ·
      rw [if_neg c12] at H
      exact absurd H (by simp)
    ·
     rw [if_neg c11] at H
     exact absurd H (by simp)
   ·
    rw [if_neg c10] at H
    exact absurd H (by simp)
  ·
   rw [if_neg c9] at H
   have c9b0 : decide (0 ≤ t299) = false := decide_eq_false c9
   clear c9
   obtain ⟨ji37, hji37⟩ : ∃ j_ : Int, (wrap64 ((t307.length : Int) - (ji8))) = j_ := ⟨_, rfl⟩
   replace H : (if 0 ≤ (ji37) then (if (ji37) ≤ (t307.length : Int) then (if 1 ≤ (t301.length : Int) then ((impl_joined.f k (t307.take ((ji37) : Int).toNat) (t301.drop 1)).bind fun bt333 => (some (bt333.1, bt333.2.1, bt333.2.2))) else (none)) else (none)) else (none)) = some (r1, r2, r3) := by first | (rw [hji37] at H; exact H) | (simp only [hji37] at H ⊢; exact H)
   (try rw [hji37] at A3)
   (try rw [hji37] at A5)
   (try rw [hji37] at A6)
   have hji37w : (IntKind.i64.wrap ((t307.length : Int) - (ji8))) = ji37 := (i64_w _).trans hji37
   by_cases c38 : 0 ≤ (ji37)
   ·
    rw [if_pos c38] at H
    have c38b0 := eq_true c38
    have c38b1 : decide (0 ≤ (ji37)) = true := decide_eq_true c38
    clear c38
    by_cases c39 : (ji37) ≤ (t307.length : Int)
    ·
     rw [if_pos c39] at H
     have c39b0 := eq_true c39
     have c39b1 : decide ((ji37) ≤ (t307.length : Int)) = true := decide_eq_true c39
     clear c39
     obtain ⟨y325, hy325⟩ : ∃ y_ : List (S26), y_ = (t307.take ((ji37) : Int).toNat) := ⟨_, rfl⟩
     replace H : (if 1 ≤ (t301.length : Int) then ((impl_joined.f k y325 (t301.drop 1)).bind fun bt333 => (some (bt333.1, bt333.2.1, bt333.2.2))) else (none)) = some (r1, r2, r3) := by first | (rw [hy325]; with_reducible exact H) | (have H2_ := (Option.bind_some _ _).symm.trans H; rw [hy325]; with_reducible exact H2_) | (have H2_ := (Option.bind_some _ _).symm.trans H; with_reducible exact H2_) | with_reducible exact H | (rw [hy325]; exact H) | exact H
     have Ny325 := Aside0.mk hy325
     clear hy325
     by_cases c40 : 1 ≤ (t301.length : Int)
     ·
      rw [if_pos c40] at H
      have c40b0 := eq_true c40
      have c40b1 : decide (1 ≤ (t301.length : Int)) = true := decide_eq_true c40
      clear c40
      obtain ⟨y328, hy328⟩ : ∃ y_ : List Int, y_ = (t301.drop 1) := ⟨_, rfl⟩
      replace H : ((impl_joined.f k y325 y328).bind fun bt333 => (some (bt333.1, bt333.2.1, bt333.2.2))) = some (r1, r2, r3) := by first | (rw [hy328]; with_reducible exact H) | (have H2_ := (Option.bind_some _ _).symm.trans H; rw [hy328]; with_reducible exact H2_) | (have H2_ := (Option.bind_some _ _).symm.trans H; with_reducible exact H2_) | with_reducible exact H | (rw [hy328]; exact H) | exact H
      have Ny328 := Aside0.mk hy328
      clear hy328
      replace H := Option.bind_eq_some_iff.mp H
      obtain ⟨⟨t333, t336, t339⟩, A410, H⟩ := H
      replace H : (some (t333, t336, t339)) = some (r1, r2, r3) := H
      have A41 := Aside0.mk A410
      clear A410
      simp only [Option.some.injEq, Prod.mk.injEq] at H
      obtain ⟨rfl, rfl, rfl⟩ := H
      go_enter Try.func11, Try.ntmps11
      go_wp2_with (first | ((with_reducible refine gate_dst (N := 2) rfl ?_); refine box_event ?hg (N := 2) ?hd (cs := #[.slice A0_0 l0_0.length c0_0, .slice A0_1 l0_1.length c0_1]) (t := 26) ?hr ?_; (case hd => rfl); (case hg => rfl); (case hr => first | (go_simp; done) | (go_simp; rfl)); intro gb296 hg w42 hbox hb; have BK296 := Aside0.mk (hbox); have GW296 := Aside0.mk ((by rw [hg]; exact (below_size (bU HB.out)) : w.heap.size ≤ gb296)); have GE296 := Aside0.mk ((by rw [hg]; exact (below_size (bU HB.out)) : w.heap.size ≤ gb296)); replace HB := Aside0.mk (below_step (bU HB.out) hb); clear hb hbox hg) | ((with_reducible refine gate_dst (N := 3) rfl ?_); refine box_event ?hg (N := 3) ?hd (cs := #[.slice A1_0 l1_0.length c1_0, .slice A1_1 l1_1.length c1_1]) (t := 26) ?hr ?_; (case hd => rfl); (case hg => rfl); (case hr => first | (go_simp; done) | (go_simp; rfl)); intro gb297 hg w43 hbox hb; have BK297 := Aside0.mk (hbox); have GW297 := Aside0.mk ((by rw [hg]; exact (below_size (bS1 HB.out GE296.out)) : w.heap.size ≤ gb297)); have GE297 := Aside0.mk ((by rw [hg]; exact (below_size (bS1 HB.out GE296.out)) : w.heap.size ≤ gb297)); replace HB := Aside0.mk (below_step (bS1 HB.out GE296.out) hb); have NB296_297 := Aside0.mk ((by rw [hg]; exact Nat.ne_of_lt (blk_lt (g := gb296) (o := .cells #[.slice A0_0 l0_0.length c0_0, .slice A0_1 l0_1.length c0_1] 26 (0, 0)) (kU BK296.out)) : gb296 ≠ gb297)); have NB297_296 := Aside0.mk ((by rw [hg]; exact Nat.ne_of_gt (blk_lt (g := gb296) (o := .cells #[.slice A0_0 l0_0.length c0_0, .slice A0_1 l0_1.length c0_1] 26 (0, 0)) (kU BK296.out)) : gb297 ≠ gb296)); replace BK296 := Aside0.mk (blk_below (g := gb296) (o := .cells #[.slice A0_0 l0_0.length c0_0, .slice A0_1 l0_1.length c0_1] 26 (0, 0)) (kU BK296.out) hb); clear hb hbox hg) | ((with_reducible refine gate_dst (N := 4) rfl ?_); refine box_event ?hg (N := 4) ?hd (cs := #[.slice none 0 0, .slice none 0 0]) (t := 26) ?hr ?_; (case hd => rfl); (case hg => rfl); (case hr => first | (go_simp; done) | (go_simp; rfl)); intro gb298 hg w44 hbox hb; have BK298 := Aside0.mk (hbox); have GW298 := Aside0.mk ((by rw [hg]; exact (below_size (bS2 HB.out GE296.out GE297.out)) : w.heap.size ≤ gb298)); have GE298 := Aside0.mk ((by rw [hg]; exact (below_size (bS2 HB.out GE296.out GE297.out)) : w.heap.size ≤ gb298)); replace HB := Aside0.mk (below_step (bS2 HB.out GE296.out GE297.out) hb); have NB296_298 := Aside0.mk ((by rw [hg]; exact Nat.ne_of_lt (blk_lt (g := gb296) (o := .cells #[.slice A0_0 l0_0.length c0_0, .slice A0_1 l0_1.length c0_1] 26 (0, 0)) (kU BK296.out)) : gb296 ≠ gb298)); have NB298_296 := Aside0.mk ((by rw [hg]; exact Nat.ne_of_gt (blk_lt (g := gb296) (o := .cells #[.slice A0_0 l0_0.length c0_0, .slice A0_1 l0_1.length c0_1] 26 (0, 0)) (kU BK296.out)) : gb298 ≠ gb296)); replace BK296 := Aside0.mk (blk_below (g := gb296) (o := .cells #[.slice A0_0 l0_0.length c0_0, .slice A0_1 l0_1.length c0_1] 26 (0, 0)) (kU BK296.out) hb); have NB297_298 := Aside0.mk ((by rw [hg]; exact Nat.ne_of_lt (blk_lt (g := gb297) (o := .cells #[.slice A1_0 l1_0.length c1_0, .slice A1_1 l1_1.length c1_1] 26 (0, 0)) (kU BK297.out)) : gb297 ≠ gb298)); have NB298_297 := Aside0.mk ((by rw [hg]; exact Nat.ne_of_gt (blk_lt (g := gb297) (o := .cells #[.slice A1_0 l1_0.length c1_0, .slice A1_1 l1_1.length c1_1] 26 (0, 0)) (kU BK297.out)) : gb298 ≠ gb297)); replace BK297 := Aside0.mk (blk_below (g := gb297) (o := .cells #[.slice A1_0 l1_0.length c1_0, .slice A1_1 l1_1.length c1_1] 26 (0, 0)) (kU BK297.out) hb); clear hb hbox hg; have hnb45 := NB296_297.out; have hnc45 := NB297_296.out; have hnb46 := NB296_298.out; have hnc46 := NB298_296.out; have hcz47_0 : w44.cell? ⟨gb296, 0, none⟩ = some (.slice A0_0 l0_0.length c0_0) := (blk_cell BK296.out 0).trans rfl; have hcz47_1 : w44.cell? ⟨gb296, 1, none⟩ = some (.slice A0_1 l0_1.length c0_1) := (blk_cell BK296.out 1).trans rfl; have hfz47_0 := blk_frozen BK296.out 0; have hfz47_1 := blk_frozen BK296.out 1; have hnb48 := NB297_298.out; have hnc48 := NB298_297.out; have hcz49_0 : w44.cell? ⟨gb297, 0, none⟩ = some (.slice A1_0 l1_0.length c1_0) := (blk_cell BK297.out 0).trans rfl; have hcz49_1 : w44.cell? ⟨gb297, 1, none⟩ = some (.slice A1_1 l1_1.length c1_1) := (blk_cell BK297.out 1).trans rfl; have hfz49_0 := blk_frozen BK297.out 0; have hfz49_1 := blk_frozen BK297.out 1) | ((with_reducible refine gate_callee (f := 35) rfl ?_); refine goesL_ (some 13) rfl rfl Try.func35 (by kernel_rfl) rfl #[.agg #[.slice A0_0 l0_0.length c0_0, .slice A0_1 l0_1.length c0_1], .agg #[.slice A1_0 l1_0.length c1_0, .slice A1_1 l1_1.length c1_1]] rfl (by (try simp only [List.map_toArray, List.map_cons, List.map_nil]); first | done | rfl | (simp only [List.length_drop, List.length_take]; rfl)) ?_; (with_reducible refine (impl_single.calls k _ _ l0_0 _ _ l0_1 _ _ l1_0 _ _ l1_1 t299 t300 _ ?side1 ?side2 ?side3 ?side4 ?side5 ?side6 ?side7 ?side8 A3.out).mono ?_); (case side1 => exact cU (Kd.C_below HR0_0.out HB.out)); (case side2 => exact HC0_0.out); (case side3 => exact cU (Kd.C_below HR0_1.out HB.out)); (case side4 => exact HC0_1.out); (case side5 => exact cU (Kd.C_below HR1_0.out HB.out)); (case side6 => exact HC1_0.out); (case side7 => exact cU (Kd.C_below HR1_1.out HB.out)); (case side8 => exact HC1_1.out); rintro e w50 ⟨rfl, hb⟩; refine ⟨_, rfl, ?_⟩; replace BK296 := Aside0.mk (blk_below (g := gb296) (o := .cells #[.slice A0_0 l0_0.length c0_0, .slice A0_1 l0_1.length c0_1] 26 (0, 0)) (kU BK296.out) hb); replace BK297 := Aside0.mk (blk_below (g := gb297) (o := .cells #[.slice A1_0 l1_0.length c1_0, .slice A1_1 l1_1.length c1_1] 26 (0, 0)) (kU BK297.out) hb); replace BK298 := Aside0.mk (blk_below (g := gb298) (o := .cells #[.slice none 0 0, .slice none 0 0] 26 (0, 0)) (kU BK298.out) hb); replace HB := Aside0.mk (below_step (bS3 HB.out GE296.out GE297.out GE298.out) hb); (try clear hb); (try clear hb2); (try clear hk); (try clear hi); have hcz51_0 : w50.cell? ⟨gb297, 0, none⟩ = some (.slice A1_0 l1_0.length c1_0) := (blk_cell BK297.out 0).trans rfl; have hcz51_1 : w50.cell? ⟨gb297, 1, none⟩ = some (.slice A1_1 l1_1.length c1_1) := (blk_cell BK297.out 1).trans rfl; have hfz51_0 := blk_frozen BK297.out 0; have hfz51_1 := blk_frozen BK297.out 1) | ((with_reducible refine gate_callee (f := 36) rfl ?_); refine goesL_ (some 21) rfl rfl Try.func36 (by kernel_rfl) rfl #[.agg #[.slice A1_0 l1_0.length c1_0, .slice A1_1 l1_1.length c1_1]] rfl (by (try simp only [List.map_toArray, List.map_cons, List.map_nil]); first | done | rfl | (simp only [List.length_drop, List.length_take]; rfl)) ?_; (with_reducible refine (impl_asRows.calls (fun k_ => k_ < w.heap.size) _ _ l1_0 (fun k_ => k_ < w.heap.size) _ _ l1_1 t301 t304 _ ?side1 ?side2 A5.out).mono ?_); (case side1 => exact Kd.V_mk HC1_0.out (Kd.F_below (Kd.C_F (Kd.heap_int .i64) HR1_0.out) (bS3 HB.out GE296.out GE297.out GE298.out))); (case side2 => exact Kd.V_mk HC1_1.out (Kd.F_below (Kd.C_F (Kd.heap_int .i64) HR1_1.out) (bS3 HB.out GE296.out GE297.out GE298.out))); rintro e w52 ⟨v302, v305, rfl, ho0, ho1, hb⟩; refine ⟨_, rfl, ?_⟩; have HO303 := Aside0.mk (Kd.V_lower (Kd.V_mono (ok' := fun k_ => k_ ≠ gb296 ∧ k_ ≠ gb297 ∧ k_ ≠ gb298) ho0 (fun k_ hk_ => ⟨Or.elim hk_ (fun hs_ => Or.elim hs_ (fun hs_ => fun e_ => Nat.not_le.2 hs_ (by rw [e_]; exact GW296.out)) (fun hs_ => fun e_ => Nat.not_le.2 hs_ (by rw [e_]; exact GW296.out))) (fun hn_ => (Kd.freshB (g := gb296) (o := .cells #[.slice A0_0 l0_0.length c0_0, .slice A0_1 l0_1.length c0_1] 26 (0, 0)) (kU BK296.out) k_ hn_)), Or.elim hk_ (fun hs_ => Or.elim hs_ (fun hs_ => fun e_ => Nat.not_le.2 hs_ (by rw [e_]; exact GW297.out)) (fun hs_ => fun e_ => Nat.not_le.2 hs_ (by rw [e_]; exact GW297.out))) (fun hn_ => (Kd.freshB (g := gb297) (o := .cells #[.slice A1_0 l1_0.length c1_0, .slice A1_1 l1_1.length c1_1] 26 (0, 0)) (kU BK297.out) k_ hn_)), Or.elim hk_ (fun hs_ => Or.elim hs_ (fun hs_ => fun e_ => Nat.not_le.2 hs_ (by rw [e_]; exact GW298.out)) (fun hs_ => fun e_ => Nat.not_le.2 hs_ (by rw [e_]; exact GW298.out))) (fun hn_ => (Kd.freshB (g := gb298) (o := .cells #[.slice none 0 0, .slice none 0 0] 26 (0, 0)) (kU BK298.out) k_ hn_))⟩)) (below_size (bS3 HB.out GE296.out GE297.out GE298.out))); have HO306 := Aside0.mk (Kd.V_lower (Kd.V_mono (ok' := fun k_ => k_ ≠ gb296 ∧ k_ ≠ gb297 ∧ k_ ≠ gb298) ho1 (fun k_ hk_ => ⟨Or.elim hk_ (fun hs_ => Or.elim hs_ (fun hs_ => fun e_ => Nat.not_le.2 hs_ (by rw [e_]; exact GW296.out)) (fun hs_ => fun e_ => Nat.not_le.2 hs_ (by rw [e_]; exact GW296.out))) (fun hn_ => (Kd.freshB (g := gb296) (o := .cells #[.slice A0_0 l0_0.length c0_0, .slice A0_1 l0_1.length c0_1] 26 (0, 0)) (kU BK296.out) k_ hn_)), Or.elim hk_ (fun hs_ => Or.elim hs_ (fun hs_ => fun e_ => Nat.not_le.2 hs_ (by rw [e_]; exact GW297.out)) (fun hs_ => fun e_ => Nat.not_le.2 hs_ (by rw [e_]; exact GW297.out))) (fun hn_ => (Kd.freshB (g := gb297) (o := .cells #[.slice A1_0 l1_0.length c1_0, .slice A1_1 l1_1.length c1_1] 26 (0, 0)) (kU BK297.out) k_ hn_)), Or.elim hk_ (fun hs_ => Or.elim hs_ (fun hs_ => fun e_ => Nat.not_le.2 hs_ (by rw [e_]; exact GW298.out)) (fun hs_ => fun e_ => Nat.not_le.2 hs_ (by rw [e_]; exact GW298.out))) (fun hn_ => (Kd.freshB (g := gb298) (o := .cells #[.slice none 0 0, .slice none 0 0] 26 (0, 0)) (kU BK298.out) k_ hn_))⟩)) (below_size (bS3 HB.out GE296.out GE297.out GE298.out))); replace BK296 := Aside0.mk (blk_below (g := gb296) (o := .cells #[.slice A0_0 l0_0.length c0_0, .slice A0_1 l0_1.length c0_1] 26 (0, 0)) (kU BK296.out) hb); replace BK297 := Aside0.mk (blk_below (g := gb297) (o := .cells #[.slice A1_0 l1_0.length c1_0, .slice A1_1 l1_1.length c1_1] 26 (0, 0)) (kU BK297.out) hb); replace BK298 := Aside0.mk (blk_below (g := gb298) (o := .cells #[.slice none 0 0, .slice none 0 0] 26 (0, 0)) (kU BK298.out) hb); replace HB := Aside0.mk (below_step (bS3 HB.out GE296.out GE297.out GE298.out) hb); (try clear hb); (try clear hb2); (try clear hk); (try clear hi); (try clear ho0); (try clear ho1); obtain ⟨Ao53, co53, eo53⟩ := Kd.V_slice HO303.out; subst eo53; have hcz54_0 : w52.cell? ⟨gb297, 0, none⟩ = some (.slice A1_0 l1_0.length c1_0) := (blk_cell BK297.out 0).trans rfl; have hcz54_1 : w52.cell? ⟨gb297, 1, none⟩ = some (.slice A1_1 l1_1.length c1_1) := (blk_cell BK297.out 1).trans rfl; have hfz54_0 := blk_frozen BK297.out 0; have hfz54_1 := blk_frozen BK297.out 1; obtain ⟨Ao55, co55, eo55⟩ := Kd.V_slice HO306.out; subst eo55) | ((with_reducible refine gate_callee (f := 37) rfl ?_); refine goesL_ (some 23) rfl rfl Try.func37 (by kernel_rfl) rfl #[.agg #[.slice Ao53 t301.length co53, .slice Ao55 t304.length co55]] rfl (by (try simp only [List.map_toArray, List.map_cons, List.map_nil]); first | done | rfl | (simp only [List.length_drop, List.length_take]; rfl)) ?_; (with_reducible refine (impl_Rows.calls k _ _ t301 _ _ t304 t307 _ ?side1 ?side2 ?side3 ?side4 A6.out).mono ?_); (case side1 => refine (Kd.V_reads' (e := 3) (base := w.heap.size) (ok := fun k_ => (k_ ≠ gb296 ∧ (k_ ≠ gb297 ∧ k_ ≠ gb298))) (n := t301.length) (c := co53) ?_).2.2; exact (by (with_reducible repeat (first | apply Kd.V_alloc | apply Kd.V_drewN | apply Kd.V_drew)); exact (Kd.V_mono (Kd.V_far (p := ⟨gb297, 1, none⟩) (Kd.V_far (p := ⟨gb297, 0, none⟩) (Kd.V_mono HO303.out (fun k_ hk => (⟨hk, hk.2.1⟩ : _ ∧ k_ ≠ gb297))) (fun _ hk => hk.2) (.slice Ao53 t301.length co53)) (fun _ hk => hk.2) (.slice Ao55 t304.length co55)) (fun _ h_ => h_.1)))); (case side2 => exact (Kd.V_reads' HO303.out).2.1); (case side3 => refine (Kd.V_reads' (e := 3) (base := w.heap.size) (ok := fun k_ => (k_ ≠ gb296 ∧ (k_ ≠ gb297 ∧ k_ ≠ gb298))) (n := t304.length) (c := co55) ?_).2.2; exact (by (with_reducible repeat (first | apply Kd.V_alloc | apply Kd.V_drewN | apply Kd.V_drew)); exact (Kd.V_mono (Kd.V_far (p := ⟨gb297, 1, none⟩) (Kd.V_far (p := ⟨gb297, 0, none⟩) (Kd.V_mono HO306.out (fun k_ hk => (⟨hk, hk.2.1⟩ : _ ∧ k_ ≠ gb297))) (fun _ hk => hk.2) (.slice Ao53 t301.length co53)) (fun _ hk => hk.2) (.slice Ao55 t304.length co55)) (fun _ h_ => h_.1)))); (case side4 => exact (Kd.V_reads' HO306.out).2.1); rintro e w56 ⟨v308, rfl, ho0, hb⟩; refine ⟨_, rfl, ?_⟩; replace HO303 := Aside0.mk (Kd.V_elder' (by (with_reducible repeat (first | apply Kd.V_alloc | apply Kd.V_drewN | apply Kd.V_drew)); exact (Kd.V_mono (Kd.V_far (p := ⟨gb297, 1, none⟩) (Kd.V_far (p := ⟨gb297, 0, none⟩) (Kd.V_mono HO303.out (fun k_ hk => (⟨hk, hk.2.1⟩ : _ ∧ k_ ≠ gb297))) (fun _ hk => hk.2) (.slice Ao53 t301.length co53)) (fun _ hk => hk.2) (.slice Ao55 t304.length co55)) (fun _ h_ => h_.1))) (Kd.S_base ho0) hb); replace HO306 := Aside0.mk (Kd.V_elder' (by (with_reducible repeat (first | apply Kd.V_alloc | apply Kd.V_drewN | apply Kd.V_drew)); exact (Kd.V_mono (Kd.V_far (p := ⟨gb297, 1, none⟩) (Kd.V_far (p := ⟨gb297, 0, none⟩) (Kd.V_mono HO306.out (fun k_ hk => (⟨hk, hk.2.1⟩ : _ ∧ k_ ≠ gb297))) (fun _ hk => hk.2) (.slice Ao53 t301.length co53)) (fun _ hk => hk.2) (.slice Ao55 t304.length co55)) (fun _ h_ => h_.1))) (Kd.S_base ho0) hb); have HO309 := Aside0.mk (Kd.S_lower (Kd.S_newB (Kd.S_newB (Kd.S_newB ho0 (g := gb296) (o := .cells #[.slice A0_0 l0_0.length c0_0, .slice A0_1 l0_1.length c0_1] 26 (0, 0)) (by (with_reducible repeat (first | refine blk_drewN ?_ _ | refine blk_drew ?_ | refine blk_alloc ?_ _)); refine blk_far ?_ NB296_297.out _; (with_reducible repeat (first | refine blk_drewN ?_ _ | refine blk_drew ?_ | refine blk_alloc ?_ _)); refine blk_far ?_ NB296_297.out _; (with_reducible repeat (first | refine blk_drewN ?_ _ | refine blk_drew ?_ | refine blk_alloc ?_ _)); exact BK296.out)) (g := gb297) (o := .cells #[.slice Ao53 t301.length co53, .slice Ao55 t304.length co55] 26 (0, 0)) (by (with_reducible repeat (first | refine blk_drewN ?_ _ | refine blk_drew ?_ | refine blk_alloc ?_ _)); refine blk_put (cs := #[.slice Ao53 t301.length co53, .slice A1_1 l1_1.length c1_1]) ?_ 1 _ rfl; (with_reducible repeat (first | refine blk_drewN ?_ _ | refine blk_drew ?_ | refine blk_alloc ?_ _)); refine blk_put (cs := #[.slice A1_0 l1_0.length c1_0, .slice A1_1 l1_1.length c1_1]) ?_ 0 _ rfl; (with_reducible repeat (first | refine blk_drewN ?_ _ | refine blk_drew ?_ | refine blk_alloc ?_ _)); exact BK297.out)) (g := gb298) (o := .cells #[.slice none 0 0, .slice none 0 0] 26 (0, 0)) (by (with_reducible repeat (first | refine blk_drewN ?_ _ | refine blk_drew ?_ | refine blk_alloc ?_ _)); refine blk_far ?_ NB298_297.out _; (with_reducible repeat (first | refine blk_drewN ?_ _ | refine blk_drew ?_ | refine blk_alloc ?_ _)); refine blk_far ?_ NB298_297.out _; (with_reducible repeat (first | refine blk_drewN ?_ _ | refine blk_drew ?_ | refine blk_alloc ?_ _)); exact BK298.out)) (below_size (bS3 HB.out GE296.out GE297.out GE298.out))); replace BK296 := Aside0.mk (blk_below (g := gb296) (o := .cells #[.slice A0_0 l0_0.length c0_0, .slice A0_1 l0_1.length c0_1] 26 (0, 0)) (by (with_reducible repeat (first | refine blk_drewN ?_ _ | refine blk_drew ?_ | refine blk_alloc ?_ _)); refine blk_far ?_ NB296_297.out _; (with_reducible repeat (first | refine blk_drewN ?_ _ | refine blk_drew ?_ | refine blk_alloc ?_ _)); refine blk_far ?_ NB296_297.out _; (with_reducible repeat (first | refine blk_drewN ?_ _ | refine blk_drew ?_ | refine blk_alloc ?_ _)); exact BK296.out) hb); replace BK297 := Aside0.mk (blk_below (g := gb297) (o := .cells #[.slice Ao53 t301.length co53, .slice Ao55 t304.length co55] 26 (0, 0)) (by (with_reducible repeat (first | refine blk_drewN ?_ _ | refine blk_drew ?_ | refine blk_alloc ?_ _)); refine blk_put (cs := #[.slice Ao53 t301.length co53, .slice A1_1 l1_1.length c1_1]) ?_ 1 _ rfl; (with_reducible repeat (first | refine blk_drewN ?_ _ | refine blk_drew ?_ | refine blk_alloc ?_ _)); refine blk_put (cs := #[.slice A1_0 l1_0.length c1_0, .slice A1_1 l1_1.length c1_1]) ?_ 0 _ rfl; (with_reducible repeat (first | refine blk_drewN ?_ _ | refine blk_drew ?_ | refine blk_alloc ?_ _)); exact BK297.out) hb); replace BK298 := Aside0.mk (blk_below (g := gb298) (o := .cells #[.slice none 0 0, .slice none 0 0] 26 (0, 0)) (by (with_reducible repeat (first | refine blk_drewN ?_ _ | refine blk_drew ?_ | refine blk_alloc ?_ _)); refine blk_far ?_ NB298_297.out _; (with_reducible repeat (first | refine blk_drewN ?_ _ | refine blk_drew ?_ | refine blk_alloc ?_ _)); refine blk_far ?_ NB298_297.out _; (with_reducible repeat (first | refine blk_drewN ?_ _ | refine blk_drew ?_ | refine blk_alloc ?_ _)); exact BK298.out) hb); replace HB := Aside0.mk (below_step (bS3 HB.out GE296.out GE297.out GE298.out) hb); (try clear hb); (try clear hb2); (try clear hk); (try clear hi); (try clear ho0); obtain ⟨Ao57, co57, eo57⟩ := Kd.S_slice HO309.out; subst eo57; have q58 : ((ji37) : Int) ≤ ((t307.length : Int) : Int) := of_decide_eq_true (by first | (with_reducible assumption) | assumption); obtain ⟨i058, hi058, _, hsz58, _⟩ := info_parts info26; have hcut58 := cut_to (P := Try.prog) 45 26 .i64 Try.underlying45 hi058 Ao57 t307.length co57 (ji37) (of_decide_eq_true (by first | (with_reducible assumption) | assumption)) q58 (Kd.S_reads' HO309.out).2.1; have hr58 := Kd.S_take (m := ((ji37) : Int).toNat) HO309.out (by omega); have hy58 : y325.length = ((ji37) : Int).toNat := (by rw [Ny325.out, List.length_take]; omega); rw [← Ny325.out] at hr58; rw [← hy58] at hr58 hcut58; clear hy58 hi058 hsz58 HO309; have HO327 := Aside0.mk hr58; clear hr58; replace q58 := eq_true q58; have hcz59_0 : w56.cell? ⟨gb297, 0, none⟩ = some (.slice Ao53 t301.length co53) := (blk_cell BK297.out 0).trans rfl; have hcz59_1 : w56.cell? ⟨gb297, 1, none⟩ = some (.slice Ao55 t304.length co55) := (blk_cell BK297.out 1).trans rfl; have hfz59_0 := blk_frozen BK297.out 0; have hfz59_1 := blk_frozen BK297.out 1; have q60 : (1 : Int) ≤ ((t301.length : Int) : Int) := of_decide_eq_true (by first | (with_reducible assumption) | assumption); obtain ⟨i060, hi060, _, hsz60, _⟩ := info_parts info3; have hroom60 : t301.length ≤ co53 := (Kd.V_reads' HO303.out).2.1; have hC60 : Kd.F (Kd.int .i64) _ _ Ao53 t301.length t301 := (Kd.V_at (base := w.heap.size) HO303.out).2.2; have hcut60 := cut_from (P := Try.prog) 22 3 .i64 Try.underlying22 hi060 1 hsz60 Ao53 t301.length co53 1 (by omega) q60; have hr60 := Kd.F_cut (m := (1 : Int).toNat) (c := co53) hC60 (by omega) hroom60; obtain ⟨A60, hA60⟩ : ∃ A1, A1 = (if co53 = (1 : Int).toNat then Ao53 else (Ao53 : Option Addr).map (·.add ((1 : Int).toNat * 1))) := ⟨_, rfl⟩; obtain ⟨c60, hc60⟩ : ∃ c1, c1 = co53 - (1 : Int).toNat := ⟨_, rfl⟩; have hy60 : y328.length = t301.length - (1 : Int).toNat := (by rw [Ny328.out, List.length_drop] <;> omega); rw [show (t301).drop (1 : Int).toNat = y328 from Ny328.out.symm] at hr60; replace hr60 : Kd.F (Kd.int .i64) _ _ A60 y328.length y328 := (by rw [hA60]; exact hr60); rw [← hy60, ← hA60, ← hc60] at hcut60; have HO332 := Aside0.mk (show Kd.V (Kd.int .i64) 3 _ w.heap.size _ (.slice A60 y328.length c60) y328 from Kd.V_mk (by rw [hy60, hc60]; exact Nat.sub_le_sub_right hroom60 _) hr60); have HC332 := Aside0.mk (show y328.length ≤ c60 from by rw [hy60, hc60]; exact Nat.sub_le_sub_right hroom60 _); clear hr60 hC60 hroom60 hi060 hsz60 hc60; have KY60 := Aside0.mk hy60; have KA60 := Aside0.mk hA60; clear hy60 hA60; replace q60 := eq_true q60) | ((with_reducible refine gate_callee (f := 38) rfl ?_); refine goesL_ (some 46) rfl rfl Try.func38 (by kernel_rfl) rfl #[.slice Ao57 y325.length co57, .slice A60 y328.length c60] rfl (by (try simp only [List.map_toArray, List.map_cons, List.map_nil]); first | done | rfl | (simp only [List.length_drop, List.length_take]; rfl)) ?_; (with_reducible refine (impl_joined.calls k _ _ y325 _ _ y328 t333 t336 t339 _ ?side1 ?side2 ?side3 ?side4 A41.out).mono ?_); (case side1 => exact cU (Kd.S_reads' HO327.out).2.2); (case side2 => exact (Kd.S_reads' HO327.out).2.1); (case side3 => exact cU (Kd.V_reads' HO332.out).2.2); (case side4 => exact (Kd.V_reads' HO332.out).2.1); rintro e w61 ⟨v334, v337, rfl, ho0, ho1, hb⟩; refine ⟨_, rfl, ?_⟩; replace HO303 := Aside0.mk (Kd.V_mono (Kd.V_told (Kd.V_told (Kd.V_old (VU HO303.out) hb) (Kd.R_base ho0)) (Kd.R_base ho1)) (fun _ h_ => h_.1)); replace HO306 := Aside0.mk (Kd.V_mono (Kd.V_told (Kd.V_told (Kd.V_old (VU HO306.out) hb) (Kd.R_base ho0)) (Kd.R_base ho1)) (fun _ h_ => h_.1)); replace HO327 := Aside0.mk (Kd.S_mono (Kd.S_told (Kd.S_told (Kd.S_old (SU HO327.out) hb) (Kd.R_base ho0)) (Kd.R_base ho1)) (fun _ h_ => h_.1)); replace HO332 := Aside0.mk (Kd.V_mono (Kd.V_told (Kd.V_told (Kd.V_old (VU HO332.out) hb) (Kd.R_base ho0)) (Kd.R_base ho1)) (fun _ h_ => h_.1)); have HO335 := Aside0.mk (Kd.R_lower ho0 (below_size (bS3 HB.out GE296.out GE297.out GE298.out))); have HO338 := Aside0.mk (Kd.R_lower ho1 (below_size (bS3 HB.out GE296.out GE297.out GE298.out))); replace BK296 := Aside0.mk (blk_below (g := gb296) (o := .cells #[.slice A0_0 l0_0.length c0_0, .slice A0_1 l0_1.length c0_1] 26 (0, 0)) (kU BK296.out) hb); replace BK297 := Aside0.mk (blk_below (g := gb297) (o := .cells #[.slice Ao53 t301.length co53, .slice Ao55 t304.length co55] 26 (0, 0)) (kU BK297.out) hb); replace BK298 := Aside0.mk (blk_below (g := gb298) (o := .cells #[.slice none 0 0, .slice none 0 0] 26 (0, 0)) (kU BK298.out) hb); replace HB := Aside0.mk (below_step (bS3 HB.out GE296.out GE297.out GE298.out) hb); (try clear hb); (try clear hb2); (try clear hk); (try clear hi); (try clear ho0); (try clear ho1); obtain ⟨Ao62, co62, eo62⟩ := Kd.R_slice HO335.out; subst eo62; have hcz63_0 : w61.cell? ⟨gb298, 0, none⟩ = some (.slice none 0 0) := (blk_cell BK298.out 0).trans rfl; have hcz63_1 : w61.cell? ⟨gb298, 1, none⟩ = some (.slice none 0 0) := (blk_cell BK298.out 1).trans rfl; have hfz63_0 := blk_frozen BK298.out 0; have hfz63_1 := blk_frozen BK298.out 1; obtain ⟨Ao64, co64, eo64⟩ := Kd.R_slice HO338.out; subst eo64))
      refine bodyPost_ret (results_ct rfl _ _ gb298 26 #[.slice Ao62 t333.length co62, .slice Ao64 t336.length co64] (0, 0) _ rfl (by (with_reducible repeat (first | refine blk_drewN ?_ _ | refine blk_drew ?_ | refine blk_alloc ?_ _)); refine blk_put (cs := #[.slice Ao62 t333.length co62, .slice none 0 0]) ?_ 1 _ rfl; (with_reducible repeat (first | refine blk_drewN ?_ _ | refine blk_drew ?_ | refine blk_alloc ?_ _)); refine blk_put (cs := #[.slice none 0 0, .slice none 0 0]) ?_ 0 _ rfl; (with_reducible repeat (first | refine blk_drewN ?_ _ | refine blk_drew ?_ | refine blk_alloc ?_ _)); exact BK298.out) Try.underlying26 rfl (by kernel_rfl)) rfl ?_
      exact ⟨_, _, by first | rfl | (simp [errW_none, errW_some] <;> rfl) | (simp only [← hji7, ← hji8, ← hji37]; first | rfl | (simp [errW_none, errW_some] <;> rfl)) | (simp [*, errW_none, errW_some] <;> rfl), by (with_reducible repeat (first | apply Kd.R_alloc | apply Kd.R_drewN | apply Kd.R_drew)); exact Kd.R_mono (Kd.R_far (p := ⟨gb298, 1, none⟩) (Kd.R_far (p := ⟨gb298, 0, none⟩) (Kd.R_types HO335.out BK298.out (by decide)) (fun _ hk => hk.2) (.slice Ao62 t333.length co62)) (fun _ hk => hk.2) (.slice Ao64 t336.length co64)) (fun _ hk => hk.1), by (with_reducible repeat (first | apply Kd.R_alloc | apply Kd.R_drewN | apply Kd.R_drew)); exact Kd.R_mono (Kd.R_far (p := ⟨gb298, 1, none⟩) (Kd.R_far (p := ⟨gb298, 0, none⟩) (Kd.R_types HO338.out BK298.out (by decide)) (fun _ hk => hk.2) (.slice Ao62 t333.length co62)) (fun _ hk => hk.2) (.slice Ao64 t336.length co64)) (fun _ hk => hk.1), by repeat (first | (with_reducible first | exact HB.out | apply below_alloc | apply pw_below_drewN | apply below_drew1 | refine below_set ?_ GE296.out | refine below_set ?_ GE297.out | refine below_set ?_ GE298.out) | exact HB.out)⟩
     ·
      rw [if_neg c40] at H
      exact absurd H (by simp)
    ·
     rw [if_neg c39] at H
     exact absurd H (by simp)
   ·
    rw [if_neg c38] at H
    exact absurd H (by simp)
 ·
  rw [if_neg c4] at H
  have c4b0 : (t300 == 0) = false := beq_eq_false_iff_ne.mpr c4
  have c4b1 : (t300 != 0) = true := bne_iff_ne.mpr c4
  simp only [Option.some.injEq, Prod.mk.injEq] at H
  obtain ⟨rfl, rfl, rfl⟩ := H
  go_enter Try.func11, Try.ntmps11
  go_wp2_with (first | ((with_reducible refine gate_dst (N := 2) rfl ?_); refine box_event ?hg (N := 2) ?hd (cs := #[.slice A0_0 l0_0.length c0_0, .slice A0_1 l0_1.length c0_1]) (t := 26) ?hr ?_; (case hd => rfl); (case hg => rfl); (case hr => first | (go_simp; done) | (go_simp; rfl)); intro gb296 hg w65 hbox hb; have BK296 := Aside0.mk (hbox); have GW296 := Aside0.mk ((by rw [hg]; exact (below_size (bU HB.out)) : w.heap.size ≤ gb296)); have GE296 := Aside0.mk ((by rw [hg]; exact (below_size (bU HB.out)) : w.heap.size ≤ gb296)); replace HB := Aside0.mk (below_step (bU HB.out) hb); clear hb hbox hg) | ((with_reducible refine gate_dst (N := 3) rfl ?_); refine box_event ?hg (N := 3) ?hd (cs := #[.slice A1_0 l1_0.length c1_0, .slice A1_1 l1_1.length c1_1]) (t := 26) ?hr ?_; (case hd => rfl); (case hg => rfl); (case hr => first | (go_simp; done) | (go_simp; rfl)); intro gb297 hg w66 hbox hb; have BK297 := Aside0.mk (hbox); have GW297 := Aside0.mk ((by rw [hg]; exact (below_size (bS1 HB.out GE296.out)) : w.heap.size ≤ gb297)); have GE297 := Aside0.mk ((by rw [hg]; exact (below_size (bS1 HB.out GE296.out)) : w.heap.size ≤ gb297)); replace HB := Aside0.mk (below_step (bS1 HB.out GE296.out) hb); have NB296_297 := Aside0.mk ((by rw [hg]; exact Nat.ne_of_lt (blk_lt (g := gb296) (o := .cells #[.slice A0_0 l0_0.length c0_0, .slice A0_1 l0_1.length c0_1] 26 (0, 0)) (kU BK296.out)) : gb296 ≠ gb297)); have NB297_296 := Aside0.mk ((by rw [hg]; exact Nat.ne_of_gt (blk_lt (g := gb296) (o := .cells #[.slice A0_0 l0_0.length c0_0, .slice A0_1 l0_1.length c0_1] 26 (0, 0)) (kU BK296.out)) : gb297 ≠ gb296)); replace BK296 := Aside0.mk (blk_below (g := gb296) (o := .cells #[.slice A0_0 l0_0.length c0_0, .slice A0_1 l0_1.length c0_1] 26 (0, 0)) (kU BK296.out) hb); clear hb hbox hg) | ((with_reducible refine gate_dst (N := 4) rfl ?_); refine box_event ?hg (N := 4) ?hd (cs := #[.slice none 0 0, .slice none 0 0]) (t := 26) ?hr ?_; (case hd => rfl); (case hg => rfl); (case hr => first | (go_simp; done) | (go_simp; rfl)); intro gb298 hg w67 hbox hb; have BK298 := Aside0.mk (hbox); have GW298 := Aside0.mk ((by rw [hg]; exact (below_size (bS2 HB.out GE296.out GE297.out)) : w.heap.size ≤ gb298)); have GE298 := Aside0.mk ((by rw [hg]; exact (below_size (bS2 HB.out GE296.out GE297.out)) : w.heap.size ≤ gb298)); replace HB := Aside0.mk (below_step (bS2 HB.out GE296.out GE297.out) hb); have NB296_298 := Aside0.mk ((by rw [hg]; exact Nat.ne_of_lt (blk_lt (g := gb296) (o := .cells #[.slice A0_0 l0_0.length c0_0, .slice A0_1 l0_1.length c0_1] 26 (0, 0)) (kU BK296.out)) : gb296 ≠ gb298)); have NB298_296 := Aside0.mk ((by rw [hg]; exact Nat.ne_of_gt (blk_lt (g := gb296) (o := .cells #[.slice A0_0 l0_0.length c0_0, .slice A0_1 l0_1.length c0_1] 26 (0, 0)) (kU BK296.out)) : gb298 ≠ gb296)); replace BK296 := Aside0.mk (blk_below (g := gb296) (o := .cells #[.slice A0_0 l0_0.length c0_0, .slice A0_1 l0_1.length c0_1] 26 (0, 0)) (kU BK296.out) hb); have NB297_298 := Aside0.mk ((by rw [hg]; exact Nat.ne_of_lt (blk_lt (g := gb297) (o := .cells #[.slice A1_0 l1_0.length c1_0, .slice A1_1 l1_1.length c1_1] 26 (0, 0)) (kU BK297.out)) : gb297 ≠ gb298)); have NB298_297 := Aside0.mk ((by rw [hg]; exact Nat.ne_of_gt (blk_lt (g := gb297) (o := .cells #[.slice A1_0 l1_0.length c1_0, .slice A1_1 l1_1.length c1_1] 26 (0, 0)) (kU BK297.out)) : gb298 ≠ gb297)); replace BK297 := Aside0.mk (blk_below (g := gb297) (o := .cells #[.slice A1_0 l1_0.length c1_0, .slice A1_1 l1_1.length c1_1] 26 (0, 0)) (kU BK297.out) hb); clear hb hbox hg; have hnb68 := NB296_297.out; have hnc68 := NB297_296.out; have hnb69 := NB296_298.out; have hnc69 := NB298_296.out; have hcz70_0 : w67.cell? ⟨gb296, 0, none⟩ = some (.slice A0_0 l0_0.length c0_0) := (blk_cell BK296.out 0).trans rfl; have hcz70_1 : w67.cell? ⟨gb296, 1, none⟩ = some (.slice A0_1 l0_1.length c0_1) := (blk_cell BK296.out 1).trans rfl; have hfz70_0 := blk_frozen BK296.out 0; have hfz70_1 := blk_frozen BK296.out 1; have hnb71 := NB297_298.out; have hnc71 := NB298_297.out; have hcz72_0 : w67.cell? ⟨gb297, 0, none⟩ = some (.slice A1_0 l1_0.length c1_0) := (blk_cell BK297.out 0).trans rfl; have hcz72_1 : w67.cell? ⟨gb297, 1, none⟩ = some (.slice A1_1 l1_1.length c1_1) := (blk_cell BK297.out 1).trans rfl; have hfz72_0 := blk_frozen BK297.out 0; have hfz72_1 := blk_frozen BK297.out 1) | ((with_reducible refine gate_callee (f := 35) rfl ?_); refine goesL_ (some 13) rfl rfl Try.func35 (by kernel_rfl) rfl #[.agg #[.slice A0_0 l0_0.length c0_0, .slice A0_1 l0_1.length c0_1], .agg #[.slice A1_0 l1_0.length c1_0, .slice A1_1 l1_1.length c1_1]] rfl (by (try simp only [List.map_toArray, List.map_cons, List.map_nil]); first | done | rfl | (simp only [List.length_drop, List.length_take]; rfl)) ?_; (with_reducible refine (impl_single.calls k _ _ l0_0 _ _ l0_1 _ _ l1_0 _ _ l1_1 t299 t300 _ ?side1 ?side2 ?side3 ?side4 ?side5 ?side6 ?side7 ?side8 A3.out).mono ?_); (case side1 => exact cU (Kd.C_below HR0_0.out HB.out)); (case side2 => exact HC0_0.out); (case side3 => exact cU (Kd.C_below HR0_1.out HB.out)); (case side4 => exact HC0_1.out); (case side5 => exact cU (Kd.C_below HR1_0.out HB.out)); (case side6 => exact HC1_0.out); (case side7 => exact cU (Kd.C_below HR1_1.out HB.out)); (case side8 => exact HC1_1.out); rintro e w73 ⟨rfl, hb⟩; refine ⟨_, rfl, ?_⟩; replace BK296 := Aside0.mk (blk_below (g := gb296) (o := .cells #[.slice A0_0 l0_0.length c0_0, .slice A0_1 l0_1.length c0_1] 26 (0, 0)) (kU BK296.out) hb); replace BK297 := Aside0.mk (blk_below (g := gb297) (o := .cells #[.slice A1_0 l1_0.length c1_0, .slice A1_1 l1_1.length c1_1] 26 (0, 0)) (kU BK297.out) hb); replace BK298 := Aside0.mk (blk_below (g := gb298) (o := .cells #[.slice none 0 0, .slice none 0 0] 26 (0, 0)) (kU BK298.out) hb); replace HB := Aside0.mk (below_step (bS3 HB.out GE296.out GE297.out GE298.out) hb); (try clear hb); (try clear hb2); (try clear hk); (try clear hi); have hcz74_0 : w73.cell? ⟨gb298, 0, none⟩ = some (.slice none 0 0) := (blk_cell BK298.out 0).trans rfl; have hcz74_1 : w73.cell? ⟨gb298, 1, none⟩ = some (.slice none 0 0) := (blk_cell BK298.out 1).trans rfl; have hfz74_0 := blk_frozen BK298.out 0; have hfz74_1 := blk_frozen BK298.out 1))
  refine bodyPost_ret (results_ct rfl _ _ gb298 26 #[.slice none 0 0, .slice none 0 0] (0, 0) _ rfl (by (with_reducible repeat (first | refine blk_drewN ?_ _ | refine blk_drew ?_ | refine blk_alloc ?_ _)); refine blk_put (cs := #[.slice none 0 0, .slice none 0 0]) ?_ 1 _ rfl; (with_reducible repeat (first | refine blk_drewN ?_ _ | refine blk_drew ?_ | refine blk_alloc ?_ _)); refine blk_put (cs := #[.slice none 0 0, .slice none 0 0]) ?_ 0 _ rfl; (with_reducible repeat (first | refine blk_drewN ?_ _ | refine blk_drew ?_ | refine blk_alloc ?_ _)); exact BK298.out) Try.underlying26 rfl (by kernel_rfl)) rfl ?_
  exact ⟨_, _, by first | rfl | (simp [errW_none, errW_some] <;> rfl) | (simp [*, errW_none, errW_some] <;> rfl), by first | exact Kd.R_nil _ _ _ _ _ | exact Kd.N_nil _ _ _ _ _ | exact Kd.V_nil _ _ _ _ _ | exact Kd.Q_nil _ _ _ _ _ | exact Kd.S_nil _ _ _ _ _, by first | exact Kd.R_nil _ _ _ _ _ | exact Kd.N_nil _ _ _ _ _ | exact Kd.V_nil _ _ _ _ _ | exact Kd.Q_nil _ _ _ _ _ | exact Kd.S_nil _ _ _ _ _, by repeat (first | (with_reducible first | exact HB.out | apply below_alloc | apply pw_below_drewN | apply below_drew1 | refine below_set ?_ GE296.out | refine below_set ?_ GE297.out | refine below_set ?_ GE298.out) | exact HB.out)⟩

/-! ### laws_eqIntS: function 39 -/
def laws_eqIntS.l0 : Nat → List Int → List Int → Int → Option (Bool)
 | 0, _, _, _ => none
 | k + 1, x0, x1, x5 => if x5 < (x0.length : Int) then (if 0 ≤ x5 then (if x5 < (x1.length : Int) then (if (rd x0 x5) = (rd x1 x5) then (laws_eqIntS.l0 k x0 x1 (wrap64 (x5 + 1))) else (some false)) else (none)) else (none)) else (some true)
def laws_eqIntS.f (k : Nat) (l0 : List Int) (l1 : List Int) : Option (Bool) := if (l0.length : Int) = (l1.length : Int) then (laws_eqIntS.l0 k l0 l1 0) else (some false)
theorem laws_eqIntS.mono_l : ∀ k, (∀ y0 y1 y2, LeO (laws_eqIntS.l0 k y0 y1 y2) (laws_eqIntS.l0 (k + 1) y0 y1 y2))
 | 0 => fun _ _ _ r h => by simp [laws_eqIntS.l0] at h
 | k + 1 => by
  have ih0 := laws_eqIntS.mono_l k
  ·
   intro y0 y1 y2
   unfold laws_eqIntS.l0
   repeat' first
   | (with_reducible exact ih0 _ _ _)
   | (with_reducible exact LeO.refl _)
   | (with_reducible exact LeO.none _)
   | (with_reducible refine LeO.ite ?_ ?_)
   | (with_reducible refine LeO.bind ?_ (fun _ => ?_))
   | exact ih0 _ _ _
   | exact LeO.none _
   | refine LeO.ite ?_ ?_
   | refine LeO.bind ?_ (fun _ => ?_)
theorem laws_eqIntS.mono : ∀ a0 a1 k, LeO (laws_eqIntS.f k a0 a1) (laws_eqIntS.f (k + 1) a0 a1) := by
 intro a0 a1 k
 have ih0 := laws_eqIntS.mono_l k
 unfold laws_eqIntS.f
 repeat' first
   | (with_reducible exact ih0 _ _ _)
   | (with_reducible exact LeO.refl _)
   | (with_reducible exact LeO.none _)
   | (with_reducible refine LeO.ite ?_ ?_)
   | (with_reducible refine LeO.bind ?_ (fun _ => ?_))
   | exact ih0 _ _ _
   | exact LeO.none _
   | refine LeO.ite ?_ ?_
   | refine LeO.bind ?_ (fun _ => ?_)
set_option maxHeartbeats 8000000 in
set_option maxRecDepth 100000 in
theorem laws_eqIntS.calls (k : Nat) (A0 : Option Addr) (c0 : Nat) (l0 : List Int) (A1 : Option Addr) (c1 : Nat) (l1 : List Int) (r : Bool) (w : World) (hr0 : Kd.C (Kd.int .i64) w A0 l0.length l0) (hc0 : l0.length ≤ c0) (hr1 : Kd.C (Kd.int .i64) w A1 l1.length l1) (hc1 : l1.length ≤ c1) (h : laws_eqIntS.f k l0 l1 = some r) :
  Calls Try.prog 39 #[.slice A0 l0.length c0, .slice A1 l1.length c1] w fun e w' => e = .returned (.bool r) ∧ Drawn0 w w' := by
 have HR0 := Aside0.mk hr0
 have HC0 := Aside0.mk hc0
 clear hr0 hc0
 have HR1 := Aside0.mk hr1
 have HC1 := Aside0.mk hc1
 clear hr1 hc1
 have H : (if (l0.length : Int) = (l1.length : Int) then (laws_eqIntS.l0 k l0 l1 0) else (some false)) = some r := h
 clear h
 by_cases c3 : (l0.length : Int) = (l1.length : Int)
 ·
  rw [if_pos c3] at H
  have c3b0 : ((l0.length : Int) == (l1.length : Int)) = true := beq_iff_eq.mpr c3
  have c3b1 : ((l0.length : Int) != (l1.length : Int)) = false := bne_eq_false_iff_eq.mpr c3
  have c3b2 : (l0.length == l1.length) = true := by first | simpa using c3 | (simp at c3 ⊢; omega)
  clear c3
  have H' := Aside0.mk H
  clear H
  go_enter Try.func39, Try.ntmps39
  go_wp2
  repeat (go_quiet (fail); try go_wp2)
  go_loopg [5] k (fun kq v5 w' => ∃ (x5_1 : Int), v5 = .int .i64 x5_1 ∧ Aside0 (laws_eqIntS.l0 kq l0 l1 x5_1 = some r) ∧ Aside0 (kq ≤ k) ∧ Drawn0 w w')
  case atStart => exact ⟨(0), (by first | rfl | (simp; done) | (simp [*]; done)), H', ⟨Nat.le_refl _⟩, by repeat (first | exact Drawn0.refl _ | apply Drawn0.step)⟩
  case round =>
   clear H'
   try clear c1
   try clear p2
   try clear c3
   try clear c3b0
   try clear c3b1
   try clear c3b2
   obtain ⟨x5_1, rfl, HA, HK1, ⟨m1, rfl⟩⟩ := hrel
   cases gk with
   | zero => exact absurd HA.out (by simp [laws_eqIntS.l0])
   | succ k1 =>
    have H := HA.out
    clear HA
    simp only [laws_eqIntS.l0] at H
    by_cases c4 : x5_1 < (l0.length : Int)
    ·
     rw [if_pos c4] at H
     have c4b0 : decide (x5_1 < (l0.length : Int)) = true := decide_eq_true c4
     clear c4
     by_cases c5 : 0 ≤ x5_1
     ·
      rw [if_pos c5] at H
      have c5b0 : decide (0 ≤ x5_1) = true := decide_eq_true c5
      clear c5
      by_cases c6 : x5_1 < (l1.length : Int)
      ·
       rw [if_pos c6] at H
       have c6b0 : decide (x5_1 < (l1.length : Int)) = true := decide_eq_true c6
       clear c6
       by_cases c7 : (rd l0 x5_1) = (rd l1 x5_1)
       ·
        rw [if_pos c7] at H
        have c7b0 : ((rd l0 x5_1) == (rd l1 x5_1)) = true := beq_iff_eq.mpr c7
        have c7b1 : ((rd l0 x5_1) != (rd l1 x5_1)) = false := bne_eq_false_iff_eq.mpr c7
        clear c7
        have H' := Aside0.mk H
        clear H
        have p340 : 0 ≤ (x5_1 : Int) := of_decide_eq_true (by first | (with_reducible assumption) | assumption)
        have q340 : x5_1 < (l0.length : Int) := of_decide_eq_true (by first | (with_reducible assumption) | assumption)
        obtain ⟨ad340, e340, hx340_0⟩ := Kd.at_int HR0.out x5_1 p340 q340
        cases e340
        replace p340 := eq_true p340
        replace q340 := eq_true q340
        have p341 : 0 ≤ (x5_1 : Int) := of_decide_eq_true (by first | (with_reducible assumption) | assumption)
        have q341 : x5_1 < (l1.length : Int) := of_decide_eq_true (by first | (with_reducible assumption) | assumption)
        obtain ⟨ad341, e341, hx341_0⟩ := Kd.at_int HR1.out x5_1 p341 q341
        cases e341
        replace p341 := eq_true p341
        replace q341 := eq_true q341
        go_wp2
        repeat (go_quiet (fail); try go_wp2)
        go_roundg k1
        case measure => have := HK1.out; omega
        case rel => exact ⟨(wrap64 (x5_1 + 1)), (by first | rfl | (simp; done) | (simp [*]; done)), H', ⟨by have := HK1.out; omega⟩, by repeat (first | exact Drawn0.refl _ | apply Drawn0.step)⟩
       ·
        rw [if_neg c7] at H
        have c7b0 : ((rd l0 x5_1) == (rd l1 x5_1)) = false := beq_eq_false_iff_ne.mpr c7
        have c7b1 : ((rd l0 x5_1) != (rd l1 x5_1)) = true := bne_iff_ne.mpr c7
        obtain rfl := Option.some.inj H
        have p340 : 0 ≤ (x5_1 : Int) := of_decide_eq_true (by first | (with_reducible assumption) | assumption)
        have q340 : x5_1 < (l0.length : Int) := of_decide_eq_true (by first | (with_reducible assumption) | assumption)
        obtain ⟨ad340, e340, hx340_0⟩ := Kd.at_int HR0.out x5_1 p340 q340
        cases e340
        replace p340 := eq_true p340
        replace q340 := eq_true q340
        have p341 : 0 ≤ (x5_1 : Int) := of_decide_eq_true (by first | (with_reducible assumption) | assumption)
        have q341 : x5_1 < (l1.length : Int) := of_decide_eq_true (by first | (with_reducible assumption) | assumption)
        obtain ⟨ad341, e341, hx341_0⟩ := Kd.at_int HR1.out x5_1 p341 q341
        cases e341
        replace p341 := eq_true p341
        replace q341 := eq_true q341
        go_wp2
        repeat (go_quiet (fail); try go_wp2)
        go_ret
        exact ⟨by first | rfl | (simp; done) | (simp [*]; done), by repeat (first | exact Drawn0.refl _ | apply Drawn0.step)⟩
      ·
       rw [if_neg c6] at H
       exact absurd H (by simp)
     ·
      rw [if_neg c5] at H
      exact absurd H (by simp)
    ·
     rw [if_neg c4] at H
     have c4b0 : decide (x5_1 < (l0.length : Int)) = false := decide_eq_false c4
     clear c4
     obtain rfl := Option.some.inj H
     go_wp2
     repeat (go_quiet (fail); try go_wp2)
     go_ret
     exact ⟨by first | rfl | (simp; done) | (simp [*]; done), by repeat (first | exact Drawn0.refl _ | apply Drawn0.step)⟩
 ·
  rw [if_neg c3] at H
  have c3b0 : ((l0.length : Int) == (l1.length : Int)) = false := beq_eq_false_iff_ne.mpr c3
  have c3b1 : ((l0.length : Int) != (l1.length : Int)) = true := bne_iff_ne.mpr c3
  have c3b2 : (l0.length == l1.length) = false := by first | simpa using c3 | (simp at c3 ⊢; omega)
  obtain rfl := Option.some.inj H
  go_enter Try.func39, Try.ntmps39
  go_wp2
  repeat (go_quiet (fail); try go_wp2)
  go_ret
  exact ⟨by first | rfl | (simp; done) | (simp [*]; done), by repeat (first | exact Drawn0.refl _ | apply Drawn0.step)⟩

/-! ### laws_eqArray: function 12 -/
def laws_eqArray.f (k : Nat) (l0_0 : List Int) (l0_1 : List Int) (l1_0 : List Int) (l1_1 : List Int) : Option (Bool) := (laws_eqIntS.f k l0_0 l1_0).bind fun t344 => (if t344 = true then ((laws_eqIntS.f k l0_1 l1_1).bind fun t345 => (if t345 = true then (some true) else (some false))) else (some false))
theorem laws_eqArray.mono : ∀ a0 a1 a2 a3 k, LeO (laws_eqArray.f k a0 a1 a2 a3) (laws_eqArray.f (k + 1) a0 a1 a2 a3) := by
 intro a0 a1 a2 a3 k
 unfold laws_eqArray.f
 repeat' first
   | (with_reducible exact laws_eqIntS.mono _ _ _)
   | (with_reducible exact LeO.refl _)
   | (with_reducible exact LeO.none _)
   | (with_reducible refine LeO.ite ?_ ?_)
   | (with_reducible refine LeO.bind ?_ (fun _ => ?_))
   | exact laws_eqIntS.mono _ _ _
   | exact LeO.none _
   | refine LeO.ite ?_ ?_
   | refine LeO.bind ?_ (fun _ => ?_)
set_option maxHeartbeats 8000000 in
set_option maxRecDepth 100000 in
theorem laws_eqArray.calls (k : Nat) (A0_0 : Option Addr) (c0_0 : Nat) (l0_0 : List Int) (A0_1 : Option Addr) (c0_1 : Nat) (l0_1 : List Int) (A1_0 : Option Addr) (c1_0 : Nat) (l1_0 : List Int) (A1_1 : Option Addr) (c1_1 : Nat) (l1_1 : List Int) (r : Bool) (w : World) (hr0_0 : Kd.C (Kd.int .i64) w A0_0 l0_0.length l0_0) (hc0_0 : l0_0.length ≤ c0_0) (hr0_1 : Kd.C (Kd.int .i64) w A0_1 l0_1.length l0_1) (hc0_1 : l0_1.length ≤ c0_1) (hr1_0 : Kd.C (Kd.int .i64) w A1_0 l1_0.length l1_0) (hc1_0 : l1_0.length ≤ c1_0) (hr1_1 : Kd.C (Kd.int .i64) w A1_1 l1_1.length l1_1) (hc1_1 : l1_1.length ≤ c1_1) (h : laws_eqArray.f k l0_0 l0_1 l1_0 l1_1 = some r) :
  Calls Try.prog 12 #[.agg #[.slice A0_0 l0_0.length c0_0, .slice A0_1 l0_1.length c0_1], .agg #[.slice A1_0 l1_0.length c1_0, .slice A1_1 l1_1.length c1_1]] w fun e w' => e = .returned (.bool r) ∧ Below w.heap.size w w' := by
 have hu26 := Try.underlying26
 have HR0_0 := Aside0.mk hr0_0
 have HC0_0 := Aside0.mk hc0_0
 clear hr0_0 hc0_0
 have HR0_1 := Aside0.mk hr0_1
 have HC0_1 := Aside0.mk hc0_1
 clear hr0_1 hc0_1
 have HR1_0 := Aside0.mk hr1_0
 have HC1_0 := Aside0.mk hc1_0
 clear hr1_0 hc1_0
 have HR1_1 := Aside0.mk hr1_1
 have HC1_1 := Aside0.mk hc1_1
 clear hr1_1 hc1_1
 have HB := Aside0.mk (Below.refl w.heap.size w)
 have H : ((laws_eqIntS.f k l0_0 l1_0).bind fun t344 => (if t344 = true then ((laws_eqIntS.f k l0_1 l1_1).bind fun t345 => (if t345 = true then (some true) else (some false))) else (some false))) = some r := h
 clear h
 replace H := Option.bind_eq_some_iff.mp H
 obtain ⟨t344, A30, H⟩ := H
 replace H : (if t344 = true then ((laws_eqIntS.f k l0_1 l1_1).bind fun t345 => (if t345 = true then (some true) else (some false))) else (some false)) = some r := H
 have A3 := Aside0.mk A30
 clear A30
 by_cases c4 : t344 = true
 ·
  subst c4
  have H1 : ((laws_eqIntS.f k l0_1 l1_1).bind fun t345 => (if t345 = true then (some true) else (some false))) = some r := by rw [if_pos rfl] at H; exact H
  clear H
  have H := H1
  clear H1
  replace H := Option.bind_eq_some_iff.mp H
  obtain ⟨t345, A50, H⟩ := H
  replace H : (if t345 = true then (some true) else (some false)) = some r := H
  have A5 := Aside0.mk A50
  clear A50
  by_cases c6 : t345 = true
  ·
   subst c6
   have H1 : (some true) = some r := by rw [if_pos rfl] at H; exact H
   clear H
   have H := H1
   clear H1
   obtain rfl := Option.some.inj H
   go_enter Try.func12, Try.ntmps12
   go_wp2_with (first | ((with_reducible refine gate_dst (N := 2) rfl ?_); refine box_event ?hg (N := 2) ?hd (cs := #[.slice A0_0 l0_0.length c0_0, .slice A0_1 l0_1.length c0_1]) (t := 26) ?hr ?_; (case hd => rfl); (case hg => rfl); (case hr => first | (go_simp; done) | (go_simp; rfl)); intro gb342 hg w7 hbox hb; have BK342 := Aside0.mk (hbox); have GW342 := Aside0.mk ((by rw [hg]; exact (below_size (bU HB.out)) : w.heap.size ≤ gb342)); have GE342 := Aside0.mk ((by rw [hg]; exact (below_size (bU HB.out)) : w.heap.size ≤ gb342)); replace HB := Aside0.mk (below_step (bU HB.out) hb); clear hb hbox hg) | ((with_reducible refine gate_dst (N := 3) rfl ?_); refine box_event ?hg (N := 3) ?hd (cs := #[.slice A1_0 l1_0.length c1_0, .slice A1_1 l1_1.length c1_1]) (t := 26) ?hr ?_; (case hd => rfl); (case hg => rfl); (case hr => first | (go_simp; done) | (go_simp; rfl)); intro gb343 hg w8 hbox hb; have BK343 := Aside0.mk (hbox); have GW343 := Aside0.mk ((by rw [hg]; exact (below_size (bS1 HB.out GE342.out)) : w.heap.size ≤ gb343)); have GE343 := Aside0.mk ((by rw [hg]; exact (below_size (bS1 HB.out GE342.out)) : w.heap.size ≤ gb343)); replace HB := Aside0.mk (below_step (bS1 HB.out GE342.out) hb); have NB342_343 := Aside0.mk ((by rw [hg]; exact Nat.ne_of_lt (blk_lt (g := gb342) (o := .cells #[.slice A0_0 l0_0.length c0_0, .slice A0_1 l0_1.length c0_1] 26 (0, 0)) (kU BK342.out)) : gb342 ≠ gb343)); have NB343_342 := Aside0.mk ((by rw [hg]; exact Nat.ne_of_gt (blk_lt (g := gb342) (o := .cells #[.slice A0_0 l0_0.length c0_0, .slice A0_1 l0_1.length c0_1] 26 (0, 0)) (kU BK342.out)) : gb343 ≠ gb342)); replace BK342 := Aside0.mk (blk_below (g := gb342) (o := .cells #[.slice A0_0 l0_0.length c0_0, .slice A0_1 l0_1.length c0_1] 26 (0, 0)) (kU BK342.out) hb); clear hb hbox hg; have hnb9 := NB342_343.out; have hnc9 := NB343_342.out; have hcz10_0 : w8.cell? ⟨gb342, 0, none⟩ = some (.slice A0_0 l0_0.length c0_0) := (blk_cell BK342.out 0).trans rfl; have hcz10_1 : w8.cell? ⟨gb342, 1, none⟩ = some (.slice A0_1 l0_1.length c0_1) := (blk_cell BK342.out 1).trans rfl; have hfz10_0 := blk_frozen BK342.out 0; have hfz10_1 := blk_frozen BK342.out 1; have hcz11_0 : w8.cell? ⟨gb343, 0, none⟩ = some (.slice A1_0 l1_0.length c1_0) := (blk_cell BK343.out 0).trans rfl; have hcz11_1 : w8.cell? ⟨gb343, 1, none⟩ = some (.slice A1_1 l1_1.length c1_1) := (blk_cell BK343.out 1).trans rfl; have hfz11_0 := blk_frozen BK343.out 0; have hfz11_1 := blk_frozen BK343.out 1) | ((with_reducible refine gate_callee (f := 39) rfl ?_); refine goesL_ (some 9) rfl rfl Try.func39 (by kernel_rfl) rfl #[.slice A0_0 l0_0.length c0_0, .slice A1_0 l1_0.length c1_0] rfl (by (try simp only [List.map_toArray, List.map_cons, List.map_nil]); first | done | rfl | (simp only [List.length_drop, List.length_take]; rfl)) ?_; (with_reducible refine (laws_eqIntS.calls k _ _ l0_0 _ _ l1_0 true _ ?side1 ?side2 ?side3 ?side4 A3.out).mono ?_); (case side1 => exact cU (Kd.C_below HR0_0.out HB.out)); (case side2 => exact HC0_0.out); (case side3 => exact cU (Kd.C_below HR1_0.out HB.out)); (case side4 => exact HC1_0.out); rintro e w' ⟨rfl, ⟨nd, rfl⟩⟩; refine ⟨_, rfl, ?_⟩) | ((with_reducible refine gate_callee (f := 39) rfl ?_); refine goesL_ (some 15) rfl rfl Try.func39 (by kernel_rfl) rfl #[.slice A0_1 l0_1.length c0_1, .slice A1_1 l1_1.length c1_1] rfl (by (try simp only [List.map_toArray, List.map_cons, List.map_nil]); first | done | rfl | (simp only [List.length_drop, List.length_take]; rfl)) ?_; (with_reducible refine (laws_eqIntS.calls k _ _ l0_1 _ _ l1_1 true _ ?side1 ?side2 ?side3 ?side4 A5.out).mono ?_); (case side1 => repeat (first | exact (Kd.C_below HR0_1.out (bS2 HB.out GE342.out GE343.out)) | (with_reducible refine Kd.C_alloc ?_ _) | (with_reducible refine Kd.C_drewN ?_ _) | (with_reducible refine Kd.C_drew ?_))); (case side2 => exact HC0_1.out); (case side3 => repeat (first | exact (Kd.C_below HR1_1.out (bS2 HB.out GE342.out GE343.out)) | (with_reducible refine Kd.C_alloc ?_ _) | (with_reducible refine Kd.C_drewN ?_ _) | (with_reducible refine Kd.C_drew ?_))); (case side4 => exact HC1_1.out); rintro e w' ⟨rfl, ⟨nd, rfl⟩⟩; refine ⟨_, rfl, ?_⟩))
   go_ret
   exact ⟨by first | rfl | (simp [errW_none, errW_some] <;> rfl) | (simp [*, errW_none, errW_some] <;> rfl), by repeat (first | (with_reducible first | exact HB.out | apply below_alloc | apply pw_below_drewN | apply below_drew1 | refine below_set ?_ GE342.out | refine below_set ?_ GE343.out) | exact HB.out)⟩
  ·
   replace c6 := Bool.eq_false_iff.mpr c6
   subst c6
   have H1 : (some false) = some r := by rw [if_neg (show ¬ (false = true) by decide)] at H; exact H
   clear H
   have H := H1
   clear H1
   obtain rfl := Option.some.inj H
   go_enter Try.func12, Try.ntmps12
   go_wp2_with (first | ((with_reducible refine gate_dst (N := 2) rfl ?_); refine box_event ?hg (N := 2) ?hd (cs := #[.slice A0_0 l0_0.length c0_0, .slice A0_1 l0_1.length c0_1]) (t := 26) ?hr ?_; (case hd => rfl); (case hg => rfl); (case hr => first | (go_simp; done) | (go_simp; rfl)); intro gb342 hg w12 hbox hb; have BK342 := Aside0.mk (hbox); have GW342 := Aside0.mk ((by rw [hg]; exact (below_size (bU HB.out)) : w.heap.size ≤ gb342)); have GE342 := Aside0.mk ((by rw [hg]; exact (below_size (bU HB.out)) : w.heap.size ≤ gb342)); replace HB := Aside0.mk (below_step (bU HB.out) hb); clear hb hbox hg) | ((with_reducible refine gate_dst (N := 3) rfl ?_); refine box_event ?hg (N := 3) ?hd (cs := #[.slice A1_0 l1_0.length c1_0, .slice A1_1 l1_1.length c1_1]) (t := 26) ?hr ?_; (case hd => rfl); (case hg => rfl); (case hr => first | (go_simp; done) | (go_simp; rfl)); intro gb343 hg w13 hbox hb; have BK343 := Aside0.mk (hbox); have GW343 := Aside0.mk ((by rw [hg]; exact (below_size (bS1 HB.out GE342.out)) : w.heap.size ≤ gb343)); have GE343 := Aside0.mk ((by rw [hg]; exact (below_size (bS1 HB.out GE342.out)) : w.heap.size ≤ gb343)); replace HB := Aside0.mk (below_step (bS1 HB.out GE342.out) hb); have NB342_343 := Aside0.mk ((by rw [hg]; exact Nat.ne_of_lt (blk_lt (g := gb342) (o := .cells #[.slice A0_0 l0_0.length c0_0, .slice A0_1 l0_1.length c0_1] 26 (0, 0)) (kU BK342.out)) : gb342 ≠ gb343)); have NB343_342 := Aside0.mk ((by rw [hg]; exact Nat.ne_of_gt (blk_lt (g := gb342) (o := .cells #[.slice A0_0 l0_0.length c0_0, .slice A0_1 l0_1.length c0_1] 26 (0, 0)) (kU BK342.out)) : gb343 ≠ gb342)); replace BK342 := Aside0.mk (blk_below (g := gb342) (o := .cells #[.slice A0_0 l0_0.length c0_0, .slice A0_1 l0_1.length c0_1] 26 (0, 0)) (kU BK342.out) hb); clear hb hbox hg; have hnb14 := NB342_343.out; have hnc14 := NB343_342.out; have hcz15_0 : w13.cell? ⟨gb342, 0, none⟩ = some (.slice A0_0 l0_0.length c0_0) := (blk_cell BK342.out 0).trans rfl; have hcz15_1 : w13.cell? ⟨gb342, 1, none⟩ = some (.slice A0_1 l0_1.length c0_1) := (blk_cell BK342.out 1).trans rfl; have hfz15_0 := blk_frozen BK342.out 0; have hfz15_1 := blk_frozen BK342.out 1; have hcz16_0 : w13.cell? ⟨gb343, 0, none⟩ = some (.slice A1_0 l1_0.length c1_0) := (blk_cell BK343.out 0).trans rfl; have hcz16_1 : w13.cell? ⟨gb343, 1, none⟩ = some (.slice A1_1 l1_1.length c1_1) := (blk_cell BK343.out 1).trans rfl; have hfz16_0 := blk_frozen BK343.out 0; have hfz16_1 := blk_frozen BK343.out 1) | ((with_reducible refine gate_callee (f := 39) rfl ?_); refine goesL_ (some 9) rfl rfl Try.func39 (by kernel_rfl) rfl #[.slice A0_0 l0_0.length c0_0, .slice A1_0 l1_0.length c1_0] rfl (by (try simp only [List.map_toArray, List.map_cons, List.map_nil]); first | done | rfl | (simp only [List.length_drop, List.length_take]; rfl)) ?_; (with_reducible refine (laws_eqIntS.calls k _ _ l0_0 _ _ l1_0 true _ ?side1 ?side2 ?side3 ?side4 A3.out).mono ?_); (case side1 => exact cU (Kd.C_below HR0_0.out HB.out)); (case side2 => exact HC0_0.out); (case side3 => exact cU (Kd.C_below HR1_0.out HB.out)); (case side4 => exact HC1_0.out); rintro e w' ⟨rfl, ⟨nd, rfl⟩⟩; refine ⟨_, rfl, ?_⟩) | ((with_reducible refine gate_callee (f := 39) rfl ?_); refine goesL_ (some 15) rfl rfl Try.func39 (by kernel_rfl) rfl #[.slice A0_1 l0_1.length c0_1, .slice A1_1 l1_1.length c1_1] rfl (by (try simp only [List.map_toArray, List.map_cons, List.map_nil]); first | done | rfl | (simp only [List.length_drop, List.length_take]; rfl)) ?_; (with_reducible refine (laws_eqIntS.calls k _ _ l0_1 _ _ l1_1 false _ ?side1 ?side2 ?side3 ?side4 A5.out).mono ?_); (case side1 => repeat (first | exact (Kd.C_below HR0_1.out (bS2 HB.out GE342.out GE343.out)) | (with_reducible refine Kd.C_alloc ?_ _) | (with_reducible refine Kd.C_drewN ?_ _) | (with_reducible refine Kd.C_drew ?_))); (case side2 => exact HC0_1.out); (case side3 => repeat (first | exact (Kd.C_below HR1_1.out (bS2 HB.out GE342.out GE343.out)) | (with_reducible refine Kd.C_alloc ?_ _) | (with_reducible refine Kd.C_drewN ?_ _) | (with_reducible refine Kd.C_drew ?_))); (case side4 => exact HC1_1.out); rintro e w' ⟨rfl, ⟨nd, rfl⟩⟩; refine ⟨_, rfl, ?_⟩))
   go_ret
   exact ⟨by first | rfl | (simp [errW_none, errW_some] <;> rfl) | (simp [*, errW_none, errW_some] <;> rfl), by repeat (first | (with_reducible first | exact HB.out | apply below_alloc | apply pw_below_drewN | apply below_drew1 | refine below_set ?_ GE342.out | refine below_set ?_ GE343.out) | exact HB.out)⟩
 ·
  replace c4 := Bool.eq_false_iff.mpr c4
  subst c4
  have H1 : (some false) = some r := by rw [if_neg (show ¬ (false = true) by decide)] at H; exact H
  clear H
  have H := H1
  clear H1
  obtain rfl := Option.some.inj H
  go_enter Try.func12, Try.ntmps12
  go_wp2_with (first | ((with_reducible refine gate_dst (N := 2) rfl ?_); refine box_event ?hg (N := 2) ?hd (cs := #[.slice A0_0 l0_0.length c0_0, .slice A0_1 l0_1.length c0_1]) (t := 26) ?hr ?_; (case hd => rfl); (case hg => rfl); (case hr => first | (go_simp; done) | (go_simp; rfl)); intro gb342 hg w17 hbox hb; have BK342 := Aside0.mk (hbox); have GW342 := Aside0.mk ((by rw [hg]; exact (below_size (bU HB.out)) : w.heap.size ≤ gb342)); have GE342 := Aside0.mk ((by rw [hg]; exact (below_size (bU HB.out)) : w.heap.size ≤ gb342)); replace HB := Aside0.mk (below_step (bU HB.out) hb); clear hb hbox hg) | ((with_reducible refine gate_dst (N := 3) rfl ?_); refine box_event ?hg (N := 3) ?hd (cs := #[.slice A1_0 l1_0.length c1_0, .slice A1_1 l1_1.length c1_1]) (t := 26) ?hr ?_; (case hd => rfl); (case hg => rfl); (case hr => first | (go_simp; done) | (go_simp; rfl)); intro gb343 hg w18 hbox hb; have BK343 := Aside0.mk (hbox); have GW343 := Aside0.mk ((by rw [hg]; exact (below_size (bS1 HB.out GE342.out)) : w.heap.size ≤ gb343)); have GE343 := Aside0.mk ((by rw [hg]; exact (below_size (bS1 HB.out GE342.out)) : w.heap.size ≤ gb343)); replace HB := Aside0.mk (below_step (bS1 HB.out GE342.out) hb); have NB342_343 := Aside0.mk ((by rw [hg]; exact Nat.ne_of_lt (blk_lt (g := gb342) (o := .cells #[.slice A0_0 l0_0.length c0_0, .slice A0_1 l0_1.length c0_1] 26 (0, 0)) (kU BK342.out)) : gb342 ≠ gb343)); have NB343_342 := Aside0.mk ((by rw [hg]; exact Nat.ne_of_gt (blk_lt (g := gb342) (o := .cells #[.slice A0_0 l0_0.length c0_0, .slice A0_1 l0_1.length c0_1] 26 (0, 0)) (kU BK342.out)) : gb343 ≠ gb342)); replace BK342 := Aside0.mk (blk_below (g := gb342) (o := .cells #[.slice A0_0 l0_0.length c0_0, .slice A0_1 l0_1.length c0_1] 26 (0, 0)) (kU BK342.out) hb); clear hb hbox hg; have hnb19 := NB342_343.out; have hnc19 := NB343_342.out; have hcz20_0 : w18.cell? ⟨gb342, 0, none⟩ = some (.slice A0_0 l0_0.length c0_0) := (blk_cell BK342.out 0).trans rfl; have hcz20_1 : w18.cell? ⟨gb342, 1, none⟩ = some (.slice A0_1 l0_1.length c0_1) := (blk_cell BK342.out 1).trans rfl; have hfz20_0 := blk_frozen BK342.out 0; have hfz20_1 := blk_frozen BK342.out 1; have hcz21_0 : w18.cell? ⟨gb343, 0, none⟩ = some (.slice A1_0 l1_0.length c1_0) := (blk_cell BK343.out 0).trans rfl; have hcz21_1 : w18.cell? ⟨gb343, 1, none⟩ = some (.slice A1_1 l1_1.length c1_1) := (blk_cell BK343.out 1).trans rfl; have hfz21_0 := blk_frozen BK343.out 0; have hfz21_1 := blk_frozen BK343.out 1) | ((with_reducible refine gate_callee (f := 39) rfl ?_); refine goesL_ (some 9) rfl rfl Try.func39 (by kernel_rfl) rfl #[.slice A0_0 l0_0.length c0_0, .slice A1_0 l1_0.length c1_0] rfl (by (try simp only [List.map_toArray, List.map_cons, List.map_nil]); first | done | rfl | (simp only [List.length_drop, List.length_take]; rfl)) ?_; (with_reducible refine (laws_eqIntS.calls k _ _ l0_0 _ _ l1_0 false _ ?side1 ?side2 ?side3 ?side4 A3.out).mono ?_); (case side1 => exact cU (Kd.C_below HR0_0.out HB.out)); (case side2 => exact HC0_0.out); (case side3 => exact cU (Kd.C_below HR1_0.out HB.out)); (case side4 => exact HC1_0.out); rintro e w' ⟨rfl, ⟨nd, rfl⟩⟩; refine ⟨_, rfl, ?_⟩))
  go_ret
  exact ⟨by first | rfl | (simp [errW_none, errW_some] <;> rfl) | (simp [*, errW_none, errW_some] <;> rfl), by repeat (first | (with_reducible first | exact HB.out | apply below_alloc | apply pw_below_drewN | apply below_drew1 | refine below_set ?_ GE342.out | refine below_set ?_ GE343.out) | exact HB.out)⟩

/-! ### laws_markIntS: function 40 -/
def laws_markIntS.l0 : Nat → List Int → Int → Int → Option (Int × List Int)
 | 0, _, _, _ => none
 | k + 1, x0, x1, x5 => if x5 < (x0.length : Int) then (if 0 ≤ x5 then (laws_markIntS.l0 k (x0.set (x5 : Int).toNat x1) (wrap64 (x1 + 1)) (wrap64 (x5 + 1))) else (none)) else (some (x1, x0))
def laws_markIntS.f (k : Nat) (l0 : List Int) (a1 : Int) : Option (Int × List Int) := laws_markIntS.l0 k l0 a1 0
theorem laws_markIntS.mono_l : ∀ k, (∀ y0 y1 y2, LeO (laws_markIntS.l0 k y0 y1 y2) (laws_markIntS.l0 (k + 1) y0 y1 y2))
 | 0 => fun _ _ _ r h => by simp [laws_markIntS.l0] at h
 | k + 1 => by
  have ih0 := laws_markIntS.mono_l k
  ·
   intro y0 y1 y2
   unfold laws_markIntS.l0
   repeat' first
   | (with_reducible exact ih0 _ _ _)
   | (with_reducible exact LeO.refl _)
   | (with_reducible exact LeO.none _)
   | (with_reducible refine LeO.ite ?_ ?_)
   | (with_reducible refine LeO.bind ?_ (fun _ => ?_))
   | exact ih0 _ _ _
   | exact LeO.none _
   | refine LeO.ite ?_ ?_
   | refine LeO.bind ?_ (fun _ => ?_)
theorem laws_markIntS.mono : ∀ a0 a1 k, LeO (laws_markIntS.f k a0 a1) (laws_markIntS.f (k + 1) a0 a1) := by
 intro a0 a1 k
 have ih0 := laws_markIntS.mono_l k
 unfold laws_markIntS.f
 repeat' first
   | (with_reducible exact ih0 _ _ _)
   | (with_reducible exact LeO.refl _)
   | (with_reducible exact LeO.none _)
   | (with_reducible refine LeO.ite ?_ ?_)
   | (with_reducible refine LeO.bind ?_ (fun _ => ?_))
   | exact ih0 _ _ _
   | exact LeO.none _
   | refine LeO.ite ?_ ?_
   | refine LeO.bind ?_ (fun _ => ?_)
set_option maxHeartbeats 8000000 in
set_option maxRecDepth 100000 in
theorem laws_markIntS.calls (k : Nat) (P0_ : Nat → Prop) (u9000_ : Value) (l0 : List Int) (a1 : Int) (r1 : Int) (r2 : List Int) (w0 w : World) (hB : Below w0.heap.size w0 w) (ho0 : Kd.R (Kd.int .i64) 3 w w0.heap.size P0_ u9000_ l0) (h : laws_markIntS.f k l0 a1 = some (r1, r2)) :
  Calls Try.prog 40 #[u9000_, .int .i64 a1] w fun e w' => e = .returned (.int .i64 r1) ∧ Kd.R (Kd.int .i64) 3 w' w0.heap.size (fun k_ => (P0_ k_ ∨ w.heap.size ≤ k_)) u9000_ r2 ∧ Below w0.heap.size w0 w' ∧ Kept w w' (fun k_ => P0_ k_) := by
 have HO0 := Aside0.mk (show Kd.R (Kd.int .i64) 3 w w0.heap.size (fun k_ => (P0_ k_ ∨ w.heap.size ≤ k_)) u9000_ l0 from Kd.R_mono ho0 (fun k_ hk => (.inl hk)))
 have HK := Aside0.mk (Kept.refl w (fun k_ => P0_ k_))
 have HW0 := Aside0.mk hB.size
 have HB := Aside0.mk hB
 clear hB
 have H : (laws_markIntS.l0 k l0 a1 0) = some (r1, r2) := h
 clear h
 have H' := Aside0.mk H
 clear H
 go_enter Try.func40, Try.ntmps40
 go_wp2
 go_loopg [1, 5] k (fun kq v1 v5 w' => ∃ (x0_1 : List Int) (x1_1 : Int) (x5_1 : Int), v1 = .int .i64 x1_1 ∧ v5 = .int .i64 x5_1 ∧ Aside0 (laws_markIntS.l0 kq x0_1 x1_1 x5_1 = some (r1, r2)) ∧ Aside0 (kq ≤ k) ∧ Aside0 (Kd.R (Kd.int .i64) 3 w' w0.heap.size (fun k_ => (P0_ k_ ∨ w.heap.size ≤ k_)) u9000_ x0_1) ∧ Aside0 (Kept w w' (fun k_ => P0_ k_)) ∧ Aside0 (Below w0.heap.size w0 w'))
 case atStart => exact ⟨(l0), (a1), (0), (by first | rfl | (simp; done) | (simp [*]; done)), (by first | rfl | (simp; done) | (simp [*]; done)), H', ⟨Nat.le_refl _⟩, ⟨by (with_reducible repeat (first | apply Kd.R_alloc | apply Kd.R_drewN | apply Kd.R_drew)); exact HO0.out⟩, ⟨by repeat (first | (with_reducible first | exact HK.out | apply Kept.alloc | apply Kept.drewN | apply Kept.drew) | exact HK.out)⟩, ⟨by repeat (first | (with_reducible first | exact HB.out | apply below_alloc | apply pw_below_drewN | apply below_drew1) | exact HB.out)⟩⟩
 case round =>
  clear H'
  try clear p2
  obtain ⟨x0_1, x1_1, x5_1, rfl, rfl, HA, HK1, HO_0, HK, HB⟩ := hrel
  cases gk with
  | zero => exact absurd HA.out (by simp [laws_markIntS.l0])
  | succ k1 =>
   have H := HA.out
   clear HA
   simp only [laws_markIntS.l0] at H
   by_cases c3 : x5_1 < (x0_1.length : Int)
   ·
    rw [if_pos c3] at H
    have c3b0 : decide (x5_1 < (x0_1.length : Int)) = true := decide_eq_true c3
    clear c3
    by_cases c4 : 0 ≤ x5_1
    ·
     rw [if_pos c4] at H
     have c4b0 : decide (0 ≤ x5_1) = true := decide_eq_true c4
     clear c4
     obtain ⟨y346, hy346⟩ : ∃ y_ : List Int, y_ = (x0_1.set (x5_1 : Int).toNat x1_1) := ⟨_, rfl⟩
     replace H : (laws_markIntS.l0 k1 y346 (wrap64 (x1_1 + 1)) (wrap64 (x5_1 + 1))) = some (r1, r2) := by first | (rw [hy346]; with_reducible exact H) | (have H2_ := (Option.bind_some _ _).symm.trans H; rw [hy346]; with_reducible exact H2_) | (have H2_ := (Option.bind_some _ _).symm.trans H; with_reducible exact H2_) | with_reducible exact H | (rw [hy346]; exact H) | exact H
     have Ny346 := Aside0.mk hy346
     clear hy346
     have H' := Aside0.mk H
     clear H
     obtain ⟨Ao6, co6, eo6⟩ := Kd.R_slice HO_0.out
     subst eo6
     have p5 : 0 ≤ (x5_1 : Int) := of_decide_eq_true (by first | (with_reducible assumption) | assumption)
     have q5 : (x5_1 : Int) < ((x0_1.length : Int) : Int) := of_decide_eq_true (by first | (with_reducible assumption) | assumption)
     obtain ⟨go5, co5, eo5, gb5, gl5, cl5, HG5⟩ := Kd.R_form HO_0.out (by omega)
     (first | cases eo5 | (injection eo5 with ea_ en_ ec_; (first | subst ea_ | (injection ea_ with ea_; subst ea_)); subst ec_; clear en_))
     have GB5 := Aside0.mk gb5
     have GG5 := Aside0.mk HG5
     clear gb5 gl5 HG5
     have HMgo5 := Aside0.mk (show (P0_ go5 ∨ w.heap.size ≤ go5) from (HO_0.out.1 _ rfl))
     obtain ⟨hx5_0, hf5_0⟩ := Kd.R_celln 0 HO_0.out (x5_1 : Int) p5 q5
     replace p5 := eq_true p5
     replace q5 := eq_true q5
     have HP7 := Kd.R_putg HO_0.out (x5_1 : Int) x1_1
     go_wp2_with (first | ((with_reducible refine gate_store (t := 3) (p := 15) rfl ?_); refine store_event (t := 3) (p := 15) (v := ?vo_w8) (w1 := (wr.setCell ⟨go5, (x5_1 : Int).toNat, none⟩ (.int .i64 x1_1))) ?hg ?ho ?hn ?hr ?_; (case ho => rfl); (case hg => rfl); (case hn => rfl); (case hr => first | (go_simp; done) | (go_simp; rfl)); intro w8 hw; have hg : wr.grownBy w8 (some go5) := (by rw [hw]; exact HP7.2); have hp_ : Kd.R (Kd.int .i64) 3 w8 w0.heap.size (fun k_ => (P0_ k_ ∨ w.heap.size ≤ k_)) (.slice (some ⟨go5, 0, none⟩) x0_1.length co6) y346 := (by rw [hw, Ny346.out]; exact HP7.1); clear HP7; replace HB := Aside0.mk ((by rw [hw]; exact below_set (HB.out) GB5.out : Below w0.heap.size w0 w8)); replace HK := Aside0.mk (Kept.of_grown (S := (fun k_ => P0_ k_)) hg (by repeat (first | (with_reducible first | exact HK.out | apply Kept.alloc | apply Kept.drewN | apply Kept.drew) | exact HK.out)) (fun k_ e_ => (HO_0.out.1 k_ e_))); replace HO_0 := Aside0.mk (hp_); clear hg hw hp_))
     go_roundg k1
     case measure => have := HK1.out; omega
     case rel => exact ⟨(y346), (wrap64 (x1_1 + 1)), (wrap64 (x5_1 + 1)), (by first | rfl | (simp; done) | (simp [*]; done)), (by first | rfl | (simp; done) | (simp [*]; done)), H', ⟨by have := HK1.out; omega⟩, ⟨by (with_reducible repeat (first | apply Kd.R_alloc | apply Kd.R_drewN | apply Kd.R_drew)); exact HO_0.out⟩, ⟨by repeat (first | (with_reducible first | exact HK.out | apply Kept.alloc | apply Kept.drewN | apply Kept.drew) | exact HK.out)⟩, ⟨by repeat (first | (with_reducible first | exact HB.out | apply below_alloc | apply pw_below_drewN | apply below_drew1) | exact HB.out)⟩⟩
    ·
     rw [if_neg c4] at H
     exact absurd H (by simp)
   ·
    rw [if_neg c3] at H
    have c3b0 : decide (x5_1 < (x0_1.length : Int)) = false := decide_eq_false c3
    clear c3
    simp only [Option.some.injEq, Prod.mk.injEq] at H
    obtain ⟨rfl, rfl⟩ := H
    obtain ⟨Ao9, co9, eo9⟩ := Kd.R_slice HO_0.out
    subst eo9
    go_wp2
    go_ret
    exact ⟨by first | rfl | (simp [errW_none, errW_some] <;> rfl) | (simp [*, errW_none, errW_some] <;> rfl), by (with_reducible repeat (first | apply Kd.R_alloc | apply Kd.R_drewN | apply Kd.R_drew)); exact HO_0.out, by repeat (first | (with_reducible first | exact HB.out | apply below_alloc | apply pw_below_drewN | apply below_drew1) | exact HB.out), by repeat (first | (with_reducible first | exact HK.out | apply Kept.alloc | apply Kept.drewN | apply Kept.drew) | exact HK.out)⟩

/-! ### laws_markArray: function 13 -/
def laws_markArray.f (k : Nat) (l0_0 : List Int) (l0_1 : List Int) (a1 : Int) : Option (Int × List Int × List Int) := (laws_markIntS.f k l0_0 a1).bind fun bt348 => ((laws_markIntS.f k l0_1 bt348.1).bind fun bt350 => (some (bt350.1, bt348.2, bt350.2)))
theorem laws_markArray.mono : ∀ a0 a1 a2 k, LeO (laws_markArray.f k a0 a1 a2) (laws_markArray.f (k + 1) a0 a1 a2) := by
 intro a0 a1 a2 k
 unfold laws_markArray.f
 repeat' first
   | (with_reducible exact laws_markIntS.mono _ _ _)
   | (with_reducible exact LeO.refl _)
   | (with_reducible exact LeO.none _)
   | (with_reducible refine LeO.ite ?_ ?_)
   | (with_reducible refine LeO.bind ?_ (fun _ => ?_))
   | exact laws_markIntS.mono _ _ _
   | exact LeO.none _
   | refine LeO.ite ?_ ?_
   | refine LeO.bind ?_ (fun _ => ?_)
set_option maxHeartbeats 8000000 in
set_option maxRecDepth 100000 in
theorem laws_markArray.calls (k : Nat) (P0_0_ : Nat → Prop) (u9000_ : Value) (l0_0 : List Int) (P0_1_ : Nat → Prop) (u9001_ : Value) (l0_1 : List Int) (a1 : Int) (r1 : Int) (r2 : List Int) (r3 : List Int) (w0 w : World) (hB : Below w0.heap.size w0 w) (ho0_0 : Kd.R (Kd.int .i64) 3 w w0.heap.size P0_0_ u9000_ l0_0) (hp0_0_0_1 : ∀ k_, P0_0_ k_ → ¬ P0_1_ k_) (ho0_1 : Kd.R (Kd.int .i64) 3 w w0.heap.size P0_1_ u9001_ l0_1) (hp0_1_0_0 : ∀ k_, P0_1_ k_ → ¬ P0_0_ k_) (h : laws_markArray.f k l0_0 l0_1 a1 = some (r1, r2, r3)) :
  Calls Try.prog 13 #[.agg #[u9000_, u9001_], .int .i64 a1] w fun e w' => e = .returned (.int .i64 r1) ∧ Kd.R (Kd.int .i64) 3 w' w0.heap.size (fun k_ => ((P0_0_ k_ ∨ P0_1_ k_) ∨ w.heap.size ≤ k_)) u9000_ r2 ∧ Kd.R (Kd.int .i64) 3 w' w0.heap.size (fun k_ => ((P0_0_ k_ ∨ P0_1_ k_) ∨ w.heap.size ≤ k_)) u9001_ r3 ∧ Below w0.heap.size w0 w' ∧ Kept w w' (fun k_ => P0_0_ k_ ∨ P0_1_ k_) := by
 have hu26 := Try.underlying26
 have HO0_0 := Aside0.mk (show Kd.R (Kd.int .i64) 3 w w0.heap.size (fun k_ => ((P0_0_ k_ ∨ P0_1_ k_) ∨ w.heap.size ≤ k_) ∧ some k_ ≠ (u9001_ : Value).ownBlock) u9000_ l0_0 from Kd.R_mono ho0_0 (fun k_ hk => ⟨(.inl (.inl hk)), fun e_ => hp0_0_0_1 k_ hk (ho0_1.1 k_ e_.symm)⟩))
 have HO0_1 := Aside0.mk (show Kd.R (Kd.int .i64) 3 w w0.heap.size (fun k_ => ((P0_0_ k_ ∨ P0_1_ k_) ∨ w.heap.size ≤ k_) ∧ some k_ ≠ (u9000_ : Value).ownBlock) u9001_ l0_1 from Kd.R_mono ho0_1 (fun k_ hk => ⟨(.inl (.inr hk)), fun e_ => hp0_1_0_0 k_ hk (ho0_0.1 k_ e_.symm)⟩))
 have HK := Aside0.mk (Kept.refl w (fun k_ => P0_0_ k_ ∨ P0_1_ k_))
 have HW0 := Aside0.mk hB.size
 have HB := Aside0.mk hB
 clear hB
 have H : ((laws_markIntS.f k l0_0 a1).bind fun bt348 => ((laws_markIntS.f k l0_1 bt348.1).bind fun bt350 => (some (bt350.1, bt348.2, bt350.2)))) = some (r1, r2, r3) := h
 clear h
 replace H := Option.bind_eq_some_iff.mp H
 obtain ⟨⟨t348, t349⟩, A30, H⟩ := H
 replace H : ((laws_markIntS.f k l0_1 t348).bind fun bt350 => (some (bt350.1, t349, bt350.2))) = some (r1, r2, r3) := H
 have A3 := Aside0.mk A30
 clear A30
 replace H := Option.bind_eq_some_iff.mp H
 obtain ⟨⟨t350, t351⟩, A40, H⟩ := H
 replace H : (some (t350, t349, t351)) = some (r1, r2, r3) := H
 have A4 := Aside0.mk A40
 clear A40
 simp only [Option.some.injEq, Prod.mk.injEq] at H
 obtain ⟨rfl, rfl, rfl⟩ := H
 obtain ⟨Ao5, co5, eo5⟩ := Kd.R_slice HO0_0.out
 subst eo5
 obtain ⟨Ao6, co6, eo6⟩ := Kd.R_slice HO0_1.out
 subst eo6
 go_enter Try.func13, Try.ntmps13
 go_wp2_with (first | ((with_reducible refine gate_dst (N := 2) rfl ?_); refine box_event ?hg (N := 2) ?hd (cs := #[.slice Ao5 l0_0.length co5, .slice Ao6 l0_1.length co6]) (t := 26) ?hr ?_; (case hd => rfl); (case hg => rfl); (case hr => first | (go_simp; done) | (go_simp; rfl)); intro gb347 hg w7 hbox hb; replace HO0_0 := Aside0.mk (Kd.R_below (RU HO0_0.out) hb); replace HO0_1 := Aside0.mk (Kd.R_below (RU HO0_1.out) hb); have BK347 := Aside0.mk (hbox); have GW347 := Aside0.mk ((by rw [hg]; exact (by first | exact HK.out.1 | exact (show Kept w _ (fun k_ => P0_0_ k_ ∨ P0_1_ k_) from by repeat (first | (with_reducible first | exact HK.out | apply Kept.alloc | apply Kept.drewN | apply Kept.drew) | exact HK.out)).1) : w.heap.size ≤ gb347)); replace HK := Aside0.mk (Kept.below (S := (fun k_ => P0_0_ k_ ∨ P0_1_ k_)) (by repeat (first | (with_reducible first | exact HK.out | apply Kept.alloc | apply Kept.drewN | apply Kept.drew) | exact HK.out)) hb); have GE347 := Aside0.mk ((by rw [hg]; exact (below_size (bU HB.out)) : w0.heap.size ≤ gb347)); replace HB := Aside0.mk (below_step (bU HB.out) hb); clear hb hbox hg; have hcz8_0 : w7.cell? ⟨gb347, 0, none⟩ = some (.slice Ao5 l0_0.length co5) := (blk_cell BK347.out 0).trans rfl; have hcz8_1 : w7.cell? ⟨gb347, 1, none⟩ = some (.slice Ao6 l0_1.length co6) := (blk_cell BK347.out 1).trans rfl; have hfz8_0 := blk_frozen BK347.out 0; have hfz8_1 := blk_frozen BK347.out 1) | ((with_reducible refine gate_callee (f := 40) rfl ?_); refine goesL_ (some 8) rfl rfl Try.func40 (by kernel_rfl) rfl #[.slice Ao5 l0_0.length co5, .int .i64 a1] rfl (by (try simp only [List.map_toArray, List.map_cons, List.map_nil]); first | done | rfl | (simp only [List.length_drop, List.length_take]; rfl)) ?_; (with_reducible refine (laws_markIntS.calls k (fun k_ => some k_ = (.slice Ao5 l0_0.length co5 : Value).ownBlock) (.slice Ao5 l0_0.length co5) l0_0 a1 t348 t349 w0 _ ?side1 ?side2 A3.out).mono ?_); (case side1 => repeat (first | (with_reducible first | exact HB.out | apply below_alloc | apply pw_below_drewN | apply below_drew1 | refine below_set ?_ GE347.out) | exact HB.out)); (case side2 => exact Kd.R_tight rfl HO0_0.out); rintro e w9 ⟨rfl, hy0, hb, hkp⟩; refine ⟨_, rfl, ?_⟩; replace HO0_1 := Aside0.mk (Kd.R_mono (ok' := fun k_ => ((P0_0_ k_ ∨ P0_1_ k_) ∨ w.heap.size ≤ k_) ∧ some k_ ≠ (.slice Ao5 l0_0.length co5 : Value).ownBlock) (Kd.R_keptB (HO0_1.out) hkp (fun k_ hk_ hs_ => (hk_.2) hs_)) (fun k_ hk_ => ⟨hk_.1.1, hk_.1.2⟩)); replace BK347 := Aside0.mk (blk_kept (kU BK347.out) hkp (fun hs_ => (fun e_ => (Kd.R_ne HO0_0.out BK347.out (by decide)) e_) hs_)); replace HK := Aside0.mk (Kept.then_ (S := (fun k_ => P0_0_ k_ ∨ P0_1_ k_)) (by repeat (first | (with_reducible first | exact HK.out | apply Kept.alloc | apply Kept.drewN | apply Kept.drew | refine Kept.setCell ?_ (.inr GW347.out) _) | exact HK.out)) hkp (fun k_ hs_ => (fun e_ => (HO0_0.out.1 k_ e_.symm).1) hs_)); replace HO0_0 := Aside0.mk (Kd.R_reok rfl hy0 (fun k_ e_ => HO0_0.out.1 k_ e_)); replace HB := Aside0.mk (hb); (try clear hb); (try clear hkp); (try clear hy0); have hcz10_0 : w9.cell? ⟨gb347, 0, none⟩ = some (.slice Ao5 l0_0.length co5) := (blk_cell BK347.out 0).trans rfl; have hcz10_1 : w9.cell? ⟨gb347, 1, none⟩ = some (.slice Ao6 l0_1.length co6) := (blk_cell BK347.out 1).trans rfl; have hfz10_0 := blk_frozen BK347.out 0; have hfz10_1 := blk_frozen BK347.out 1) | ((with_reducible refine gate_callee (f := 40) rfl ?_); refine goesL_ (some 12) rfl rfl Try.func40 (by kernel_rfl) rfl #[.slice Ao6 l0_1.length co6, .int .i64 t348] rfl (by (try simp only [List.map_toArray, List.map_cons, List.map_nil]); first | done | rfl | (simp only [List.length_drop, List.length_take]; rfl)) ?_; (with_reducible refine (laws_markIntS.calls k (fun k_ => some k_ = (.slice Ao6 l0_1.length co6 : Value).ownBlock) (.slice Ao6 l0_1.length co6) l0_1 t348 t350 t351 w0 _ ?side1 ?side2 A4.out).mono ?_); (case side1 => repeat (first | (with_reducible first | exact HB.out | apply below_alloc | apply pw_below_drewN | apply below_drew1 | refine below_set ?_ GE347.out) | exact HB.out)); (case side2 => exact Kd.R_tight rfl HO0_1.out); rintro e w11 ⟨rfl, hy0, hb, hkp⟩; refine ⟨_, rfl, ?_⟩; replace HO0_0 := Aside0.mk (Kd.R_mono (ok' := fun k_ => ((P0_0_ k_ ∨ P0_1_ k_) ∨ w.heap.size ≤ k_) ∧ some k_ ≠ (.slice Ao6 l0_1.length co6 : Value).ownBlock) (Kd.R_keptB (HO0_0.out) hkp (fun k_ hk_ hs_ => (hk_.2) hs_)) (fun k_ hk_ => ⟨hk_.1.1, hk_.1.2⟩)); replace BK347 := Aside0.mk (blk_kept (kU BK347.out) hkp (fun hs_ => (fun e_ => (Kd.R_ne HO0_1.out BK347.out (by decide)) e_) hs_)); replace HK := Aside0.mk (Kept.then_ (S := (fun k_ => P0_0_ k_ ∨ P0_1_ k_)) (by repeat (first | (with_reducible first | exact HK.out | apply Kept.alloc | apply Kept.drewN | apply Kept.drew | refine Kept.setCell ?_ (.inr GW347.out) _) | exact HK.out)) hkp (fun k_ hs_ => (fun e_ => (HO0_1.out.1 k_ e_.symm).1) hs_)); replace HO0_1 := Aside0.mk (Kd.R_reok rfl hy0 (fun k_ e_ => HO0_1.out.1 k_ e_)); replace HB := Aside0.mk (hb); (try clear hb); (try clear hkp); (try clear hy0)))
 go_ret
 exact ⟨by first | rfl | (simp [errW_none, errW_some] <;> rfl) | (simp [*, errW_none, errW_some] <;> rfl), by (with_reducible repeat (first | apply Kd.R_alloc | apply Kd.R_drewN | apply Kd.R_drew)); exact Kd.R_mono HO0_0.out (fun _ hk => hk.1), by (with_reducible repeat (first | apply Kd.R_alloc | apply Kd.R_drewN | apply Kd.R_drew)); exact Kd.R_mono HO0_1.out (fun _ hk => hk.1), by repeat (first | (with_reducible first | exact HB.out | apply below_alloc | apply pw_below_drewN | apply below_drew1 | refine below_set ?_ GE347.out) | exact HB.out), by repeat (first | (with_reducible first | exact HK.out | apply Kept.alloc | apply Kept.drewN | apply Kept.drew | refine Kept.setCell ?_ (.inr GW347.out) _) | exact HK.out)⟩

/-! ### laws_heldIntS: function 41 -/
def laws_heldIntS.l0 : Nat → List Int → Int → Int → Option (Int)
 | 0, _, _, _ => none
 | k + 1, x0, x1, x5 => if x5 < (x0.length : Int) then (if 0 ≤ x5 then (if (rd x0 x5) = x1 then (laws_heldIntS.l0 k x0 (wrap64 (x1 + 1)) (wrap64 (x5 + 1))) else (some (-1))) else (none)) else (some x1)
def laws_heldIntS.f (k : Nat) (l0 : List Int) (a1 : Int) : Option (Int) := laws_heldIntS.l0 k l0 a1 0
theorem laws_heldIntS.mono_l : ∀ k, (∀ y0 y1 y2, LeO (laws_heldIntS.l0 k y0 y1 y2) (laws_heldIntS.l0 (k + 1) y0 y1 y2))
 | 0 => fun _ _ _ r h => by simp [laws_heldIntS.l0] at h
 | k + 1 => by
  have ih0 := laws_heldIntS.mono_l k
  ·
   intro y0 y1 y2
   unfold laws_heldIntS.l0
   repeat' first
   | (with_reducible exact ih0 _ _ _)
   | (with_reducible exact LeO.refl _)
   | (with_reducible exact LeO.none _)
   | (with_reducible refine LeO.ite ?_ ?_)
   | (with_reducible refine LeO.bind ?_ (fun _ => ?_))
   | exact ih0 _ _ _
   | exact LeO.none _
   | refine LeO.ite ?_ ?_
   | refine LeO.bind ?_ (fun _ => ?_)
theorem laws_heldIntS.mono : ∀ a0 a1 k, LeO (laws_heldIntS.f k a0 a1) (laws_heldIntS.f (k + 1) a0 a1) := by
 intro a0 a1 k
 have ih0 := laws_heldIntS.mono_l k
 unfold laws_heldIntS.f
 repeat' first
   | (with_reducible exact ih0 _ _ _)
   | (with_reducible exact LeO.refl _)
   | (with_reducible exact LeO.none _)
   | (with_reducible refine LeO.ite ?_ ?_)
   | (with_reducible refine LeO.bind ?_ (fun _ => ?_))
   | exact ih0 _ _ _
   | exact LeO.none _
   | refine LeO.ite ?_ ?_
   | refine LeO.bind ?_ (fun _ => ?_)
set_option maxHeartbeats 8000000 in
set_option maxRecDepth 100000 in
theorem laws_heldIntS.calls (k : Nat) (A0 : Option Addr) (c0 : Nat) (l0 : List Int) (a1 : Int) (r : Int) (w : World) (hr0 : Kd.C (Kd.int .i64) w A0 l0.length l0) (hc0 : l0.length ≤ c0) (h : laws_heldIntS.f k l0 a1 = some r) :
  Calls Try.prog 41 #[.slice A0 l0.length c0, .int .i64 a1] w fun e w' => e = .returned (.int .i64 r) ∧ Drawn0 w w' := by
 have HR0 := Aside0.mk hr0
 have HC0 := Aside0.mk hc0
 clear hr0 hc0
 have H : (laws_heldIntS.l0 k l0 a1 0) = some r := h
 clear h
 have H' := Aside0.mk H
 clear H
 go_enter Try.func41, Try.ntmps41
 go_wp2
 go_loopg [1, 5] k (fun kq v1 v5 w' => ∃ (x1_1 : Int) (x5_1 : Int), v1 = .int .i64 x1_1 ∧ v5 = .int .i64 x5_1 ∧ Aside0 (laws_heldIntS.l0 kq l0 x1_1 x5_1 = some r) ∧ Aside0 (kq ≤ k) ∧ Drawn0 w w')
 case atStart => exact ⟨(a1), (0), (by first | rfl | (simp; done) | (simp [*]; done)), (by first | rfl | (simp; done) | (simp [*]; done)), H', ⟨Nat.le_refl _⟩, by repeat (first | exact Drawn0.refl _ | apply Drawn0.step)⟩
 case round =>
  clear H'
  try clear p2
  obtain ⟨x1_1, x5_1, rfl, rfl, HA, HK1, ⟨m1, rfl⟩⟩ := hrel
  cases gk with
  | zero => exact absurd HA.out (by simp [laws_heldIntS.l0])
  | succ k1 =>
   have H := HA.out
   clear HA
   simp only [laws_heldIntS.l0] at H
   by_cases c3 : x5_1 < (l0.length : Int)
   ·
    rw [if_pos c3] at H
    have c3b0 : decide (x5_1 < (l0.length : Int)) = true := decide_eq_true c3
    clear c3
    by_cases c4 : 0 ≤ x5_1
    ·
     rw [if_pos c4] at H
     have c4b0 : decide (0 ≤ x5_1) = true := decide_eq_true c4
     clear c4
     by_cases c5 : (rd l0 x5_1) = x1_1
     ·
      rw [if_pos c5] at H
      have c5b0 : ((rd l0 x5_1) == x1_1) = true := beq_iff_eq.mpr c5
      have c5b1 : ((rd l0 x5_1) != x1_1) = false := bne_eq_false_iff_eq.mpr c5
      clear c5
      have H' := Aside0.mk H
      clear H
      have p352 : 0 ≤ (x5_1 : Int) := of_decide_eq_true (by first | (with_reducible assumption) | assumption)
      have q352 : x5_1 < (l0.length : Int) := of_decide_eq_true (by first | (with_reducible assumption) | assumption)
      obtain ⟨ad352, e352, hx352_0⟩ := Kd.at_int HR0.out x5_1 p352 q352
      cases e352
      replace p352 := eq_true p352
      replace q352 := eq_true q352
      go_wp2
      go_roundg k1
      case measure => have := HK1.out; omega
      case rel => exact ⟨(wrap64 (x1_1 + 1)), (wrap64 (x5_1 + 1)), (by first | rfl | (simp; done) | (simp [*]; done)), (by first | rfl | (simp; done) | (simp [*]; done)), H', ⟨by have := HK1.out; omega⟩, by repeat (first | exact Drawn0.refl _ | apply Drawn0.step)⟩
     ·
      rw [if_neg c5] at H
      have c5b0 : ((rd l0 x5_1) == x1_1) = false := beq_eq_false_iff_ne.mpr c5
      have c5b1 : ((rd l0 x5_1) != x1_1) = true := bne_iff_ne.mpr c5
      obtain rfl := Option.some.inj H
      have p352 : 0 ≤ (x5_1 : Int) := of_decide_eq_true (by first | (with_reducible assumption) | assumption)
      have q352 : x5_1 < (l0.length : Int) := of_decide_eq_true (by first | (with_reducible assumption) | assumption)
      obtain ⟨ad352, e352, hx352_0⟩ := Kd.at_int HR0.out x5_1 p352 q352
      cases e352
      replace p352 := eq_true p352
      replace q352 := eq_true q352
      go_wp2
      go_ret
      exact ⟨by first | rfl | (simp; done) | (simp [*]; done), by repeat (first | exact Drawn0.refl _ | apply Drawn0.step)⟩
    ·
     rw [if_neg c4] at H
     exact absurd H (by simp)
   ·
    rw [if_neg c3] at H
    have c3b0 : decide (x5_1 < (l0.length : Int)) = false := decide_eq_false c3
    clear c3
    obtain rfl := Option.some.inj H
    go_wp2
    go_ret
    exact ⟨by first | rfl | (simp; done) | (simp [*]; done), by repeat (first | exact Drawn0.refl _ | apply Drawn0.step)⟩

/-! ### laws_heldArray: function 14 -/
def laws_heldArray.f (k : Nat) (l0_0 : List Int) (l0_1 : List Int) (a1 : Int) : Option (Int) := (laws_heldIntS.f k l0_0 a1).bind fun t354 => (if t354 < 0 then (some (-1)) else ((laws_heldIntS.f k l0_1 t354).bind fun t355 => (if t355 < 0 then (some (-1)) else (some t355))))
theorem laws_heldArray.mono : ∀ a0 a1 a2 k, LeO (laws_heldArray.f k a0 a1 a2) (laws_heldArray.f (k + 1) a0 a1 a2) := by
 intro a0 a1 a2 k
 unfold laws_heldArray.f
 repeat' first
   | (with_reducible exact laws_heldIntS.mono _ _ _)
   | (with_reducible exact LeO.refl _)
   | (with_reducible exact LeO.none _)
   | (with_reducible refine LeO.ite ?_ ?_)
   | (with_reducible refine LeO.bind ?_ (fun _ => ?_))
   | exact laws_heldIntS.mono _ _ _
   | exact LeO.none _
   | refine LeO.ite ?_ ?_
   | refine LeO.bind ?_ (fun _ => ?_)
set_option maxHeartbeats 8000000 in
set_option maxRecDepth 100000 in
theorem laws_heldArray.calls (k : Nat) (A0_0 : Option Addr) (c0_0 : Nat) (l0_0 : List Int) (A0_1 : Option Addr) (c0_1 : Nat) (l0_1 : List Int) (a1 : Int) (r : Int) (w : World) (hr0_0 : Kd.C (Kd.int .i64) w A0_0 l0_0.length l0_0) (hc0_0 : l0_0.length ≤ c0_0) (hr0_1 : Kd.C (Kd.int .i64) w A0_1 l0_1.length l0_1) (hc0_1 : l0_1.length ≤ c0_1) (h : laws_heldArray.f k l0_0 l0_1 a1 = some r) :
  Calls Try.prog 14 #[.agg #[.slice A0_0 l0_0.length c0_0, .slice A0_1 l0_1.length c0_1], .int .i64 a1] w fun e w' => e = .returned (.int .i64 r) ∧ Below w.heap.size w w' := by
 have hu26 := Try.underlying26
 have HR0_0 := Aside0.mk hr0_0
 have HC0_0 := Aside0.mk hc0_0
 clear hr0_0 hc0_0
 have HR0_1 := Aside0.mk hr0_1
 have HC0_1 := Aside0.mk hc0_1
 clear hr0_1 hc0_1
 have HB := Aside0.mk (Below.refl w.heap.size w)
 have H : ((laws_heldIntS.f k l0_0 a1).bind fun t354 => (if t354 < 0 then (some (-1)) else ((laws_heldIntS.f k l0_1 t354).bind fun t355 => (if t355 < 0 then (some (-1)) else (some t355))))) = some r := h
 clear h
 replace H := Option.bind_eq_some_iff.mp H
 obtain ⟨t354, A30, H⟩ := H
 replace H : (if t354 < 0 then (some (-1)) else ((laws_heldIntS.f k l0_1 t354).bind fun t355 => (if t355 < 0 then (some (-1)) else (some t355)))) = some r := H
 have A3 := Aside0.mk A30
 clear A30
 by_cases c4 : t354 < 0
 ·
  rw [if_pos c4] at H
  have c4b0 : decide (t354 < 0) = true := decide_eq_true c4
  clear c4
  obtain rfl := Option.some.inj H
  go_enter Try.func14, Try.ntmps14
  go_wp2_with (first | ((with_reducible refine gate_dst (N := 2) rfl ?_); refine box_event ?hg (N := 2) ?hd (cs := #[.slice A0_0 l0_0.length c0_0, .slice A0_1 l0_1.length c0_1]) (t := 26) ?hr ?_; (case hd => rfl); (case hg => rfl); (case hr => first | (go_simp; done) | (go_simp; rfl)); intro gb353 hg w5 hbox hb; have BK353 := Aside0.mk (hbox); have GW353 := Aside0.mk ((by rw [hg]; exact (below_size (bU HB.out)) : w.heap.size ≤ gb353)); have GE353 := Aside0.mk ((by rw [hg]; exact (below_size (bU HB.out)) : w.heap.size ≤ gb353)); replace HB := Aside0.mk (below_step (bU HB.out) hb); clear hb hbox hg; have hcz6_0 : w5.cell? ⟨gb353, 0, none⟩ = some (.slice A0_0 l0_0.length c0_0) := (blk_cell BK353.out 0).trans rfl; have hcz6_1 : w5.cell? ⟨gb353, 1, none⟩ = some (.slice A0_1 l0_1.length c0_1) := (blk_cell BK353.out 1).trans rfl; have hfz6_0 := blk_frozen BK353.out 0; have hfz6_1 := blk_frozen BK353.out 1) | ((with_reducible refine gate_callee (f := 41) rfl ?_); refine goesL_ (some 8) rfl rfl Try.func41 (by kernel_rfl) rfl #[.slice A0_0 l0_0.length c0_0, .int .i64 a1] rfl (by (try simp only [List.map_toArray, List.map_cons, List.map_nil]); first | done | rfl | (simp only [List.length_drop, List.length_take]; rfl)) ?_; (with_reducible refine (laws_heldIntS.calls k _ _ l0_0 a1 t354 _ ?side1 ?side2 A3.out).mono ?_); (case side1 => exact cU (Kd.C_below HR0_0.out HB.out)); (case side2 => exact HC0_0.out); rintro e w' ⟨rfl, ⟨nd, rfl⟩⟩; refine ⟨_, rfl, ?_⟩))
  go_ret
  exact ⟨by first | rfl | (simp [errW_none, errW_some] <;> rfl) | (simp [*, errW_none, errW_some] <;> rfl), by repeat (first | (with_reducible first | exact HB.out | apply below_alloc | apply pw_below_drewN | apply below_drew1 | refine below_set ?_ GE353.out) | exact HB.out)⟩
 ·
  rw [if_neg c4] at H
  have c4b0 : decide (t354 < 0) = false := decide_eq_false c4
  clear c4
  replace H := Option.bind_eq_some_iff.mp H
  obtain ⟨t355, A70, H⟩ := H
  replace H : (if t355 < 0 then (some (-1)) else (some t355)) = some r := H
  have A7 := Aside0.mk A70
  clear A70
  by_cases c8 : t355 < 0
  ·
   rw [if_pos c8] at H
   have c8b0 : decide (t355 < 0) = true := decide_eq_true c8
   clear c8
   obtain rfl := Option.some.inj H
   go_enter Try.func14, Try.ntmps14
   go_wp2_with (first | ((with_reducible refine gate_dst (N := 2) rfl ?_); refine box_event ?hg (N := 2) ?hd (cs := #[.slice A0_0 l0_0.length c0_0, .slice A0_1 l0_1.length c0_1]) (t := 26) ?hr ?_; (case hd => rfl); (case hg => rfl); (case hr => first | (go_simp; done) | (go_simp; rfl)); intro gb353 hg w9 hbox hb; have BK353 := Aside0.mk (hbox); have GW353 := Aside0.mk ((by rw [hg]; exact (below_size (bU HB.out)) : w.heap.size ≤ gb353)); have GE353 := Aside0.mk ((by rw [hg]; exact (below_size (bU HB.out)) : w.heap.size ≤ gb353)); replace HB := Aside0.mk (below_step (bU HB.out) hb); clear hb hbox hg; have hcz10_0 : w9.cell? ⟨gb353, 0, none⟩ = some (.slice A0_0 l0_0.length c0_0) := (blk_cell BK353.out 0).trans rfl; have hcz10_1 : w9.cell? ⟨gb353, 1, none⟩ = some (.slice A0_1 l0_1.length c0_1) := (blk_cell BK353.out 1).trans rfl; have hfz10_0 := blk_frozen BK353.out 0; have hfz10_1 := blk_frozen BK353.out 1) | ((with_reducible refine gate_callee (f := 41) rfl ?_); refine goesL_ (some 8) rfl rfl Try.func41 (by kernel_rfl) rfl #[.slice A0_0 l0_0.length c0_0, .int .i64 a1] rfl (by (try simp only [List.map_toArray, List.map_cons, List.map_nil]); first | done | rfl | (simp only [List.length_drop, List.length_take]; rfl)) ?_; (with_reducible refine (laws_heldIntS.calls k _ _ l0_0 a1 t354 _ ?side1 ?side2 A3.out).mono ?_); (case side1 => exact cU (Kd.C_below HR0_0.out HB.out)); (case side2 => exact HC0_0.out); rintro e w' ⟨rfl, ⟨nd, rfl⟩⟩; refine ⟨_, rfl, ?_⟩) | ((with_reducible refine gate_callee (f := 41) rfl ?_); refine goesL_ (some 14) rfl rfl Try.func41 (by kernel_rfl) rfl #[.slice A0_1 l0_1.length c0_1, .int .i64 t354] rfl (by (try simp only [List.map_toArray, List.map_cons, List.map_nil]); first | done | rfl | (simp only [List.length_drop, List.length_take]; rfl)) ?_; (with_reducible refine (laws_heldIntS.calls k _ _ l0_1 t354 t355 _ ?side1 ?side2 A7.out).mono ?_); (case side1 => repeat (first | exact (Kd.C_below HR0_1.out (bS1 HB.out GE353.out)) | (with_reducible refine Kd.C_alloc ?_ _) | (with_reducible refine Kd.C_drewN ?_ _) | (with_reducible refine Kd.C_drew ?_))); (case side2 => exact HC0_1.out); rintro e w' ⟨rfl, ⟨nd, rfl⟩⟩; refine ⟨_, rfl, ?_⟩))
   go_ret
   exact ⟨by first | rfl | (simp [errW_none, errW_some] <;> rfl) | (simp [*, errW_none, errW_some] <;> rfl), by repeat (first | (with_reducible first | exact HB.out | apply below_alloc | apply pw_below_drewN | apply below_drew1 | refine below_set ?_ GE353.out) | exact HB.out)⟩
  ·
   rw [if_neg c8] at H
   have c8b0 : decide (t355 < 0) = false := decide_eq_false c8
   clear c8
   obtain rfl := Option.some.inj H
   go_enter Try.func14, Try.ntmps14
   go_wp2_with (first | ((with_reducible refine gate_dst (N := 2) rfl ?_); refine box_event ?hg (N := 2) ?hd (cs := #[.slice A0_0 l0_0.length c0_0, .slice A0_1 l0_1.length c0_1]) (t := 26) ?hr ?_; (case hd => rfl); (case hg => rfl); (case hr => first | (go_simp; done) | (go_simp; rfl)); intro gb353 hg w11 hbox hb; have BK353 := Aside0.mk (hbox); have GW353 := Aside0.mk ((by rw [hg]; exact (below_size (bU HB.out)) : w.heap.size ≤ gb353)); have GE353 := Aside0.mk ((by rw [hg]; exact (below_size (bU HB.out)) : w.heap.size ≤ gb353)); replace HB := Aside0.mk (below_step (bU HB.out) hb); clear hb hbox hg; have hcz12_0 : w11.cell? ⟨gb353, 0, none⟩ = some (.slice A0_0 l0_0.length c0_0) := (blk_cell BK353.out 0).trans rfl; have hcz12_1 : w11.cell? ⟨gb353, 1, none⟩ = some (.slice A0_1 l0_1.length c0_1) := (blk_cell BK353.out 1).trans rfl; have hfz12_0 := blk_frozen BK353.out 0; have hfz12_1 := blk_frozen BK353.out 1) | ((with_reducible refine gate_callee (f := 41) rfl ?_); refine goesL_ (some 8) rfl rfl Try.func41 (by kernel_rfl) rfl #[.slice A0_0 l0_0.length c0_0, .int .i64 a1] rfl (by (try simp only [List.map_toArray, List.map_cons, List.map_nil]); first | done | rfl | (simp only [List.length_drop, List.length_take]; rfl)) ?_; (with_reducible refine (laws_heldIntS.calls k _ _ l0_0 a1 t354 _ ?side1 ?side2 A3.out).mono ?_); (case side1 => exact cU (Kd.C_below HR0_0.out HB.out)); (case side2 => exact HC0_0.out); rintro e w' ⟨rfl, ⟨nd, rfl⟩⟩; refine ⟨_, rfl, ?_⟩) | ((with_reducible refine gate_callee (f := 41) rfl ?_); refine goesL_ (some 14) rfl rfl Try.func41 (by kernel_rfl) rfl #[.slice A0_1 l0_1.length c0_1, .int .i64 t354] rfl (by (try simp only [List.map_toArray, List.map_cons, List.map_nil]); first | done | rfl | (simp only [List.length_drop, List.length_take]; rfl)) ?_; (with_reducible refine (laws_heldIntS.calls k _ _ l0_1 t354 t355 _ ?side1 ?side2 A7.out).mono ?_); (case side1 => repeat (first | exact (Kd.C_below HR0_1.out (bS1 HB.out GE353.out)) | (with_reducible refine Kd.C_alloc ?_ _) | (with_reducible refine Kd.C_drewN ?_ _) | (with_reducible refine Kd.C_drew ?_))); (case side2 => exact HC0_1.out); rintro e w' ⟨rfl, ⟨nd, rfl⟩⟩; refine ⟨_, rfl, ?_⟩))
   go_ret
   exact ⟨by first | rfl | (simp [errW_none, errW_some] <;> rfl) | (simp [*, errW_none, errW_some] <;> rfl), by repeat (first | (with_reducible first | exact HB.out | apply below_alloc | apply pw_below_drewN | apply below_drew1 | refine below_set ?_ GE353.out) | exact HB.out)⟩

end Go.Proofs.Ytbiggdlopnpcbaa.PFnExactDrop
