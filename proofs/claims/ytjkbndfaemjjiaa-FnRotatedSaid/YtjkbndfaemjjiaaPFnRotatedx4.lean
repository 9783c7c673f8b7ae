/- The walk of what a law reaches, for the law's row: written by a program of this session; it has no condition of its own. -/
import Derived.Test.YtjkbndfaemjjiaaPFnRotatedx0
import Derived.Test.YtjkbndfaemjjiaaQ
import Derived.Test.YtjkbndfaemjjiaaPFnRotatedx1
import Derived.Test.YtjkbndfaemjjiaaPFnRotatedx3
namespace Go.Proofs.Ytjkbndfaemjjiaa.PFnRotated
open Go.RowKit Go.Proofs.YtjkbndfaemjjiaaW.PrintWords Go.Proofs.YtjkbndfaemjjiaaW.PrintLast Go.Proofs.YtjkbndfaemjjiaaW.PrintMore Go.Proofs.YtjkbndfaemjjiaaQ
attribute [local go_sem] max2_int min2_int max_two min_two max_three min_three max_four min_four   -- for this text's walks alone
set_option linter.unusedVariables false
set_option linter.unusedSimpArgs false

/-! ### spec_l5DrawBy: function 35 -/
def spec_l5DrawBy.f (k : Nat) (l0 : List Int) : Option (List Int × List Int × List Int × List Int) := (spec_l1New.f k l0).bind fun bt332 => ((spec_l1Below.f bt332.1 bt332.2.1 bt332.2.2 12).bind fun bt336 => ((spec_l1Once.f bt332.1 bt336.2.1 bt336.2.2 15).bind fun bt339 => (if bt339.1 = true then ((spec_l1PickInt.f bt332.1 bt339.2.1 bt339.2.2 (([1000000000000, (-1000000000000), 300, 301] : List Int))).bind fun bt345 => ((spec_l5DrawN.f k bt332.1 bt345.2.1 bt345.2.2 bt345.1).bind fun bt348 => ((spec_l3Draw.f k bt332.1 bt348.2.2.1 bt348.2.2.2).bind fun bt357 => (some (bt348.1, bt348.2.1, bt357.1, bt357.2.1))))) else ((spec_l5DrawN.f k bt332.1 bt339.2.1 bt339.2.2 (wrap64 (bt336.1 - 5))).bind fun bt365 => ((spec_l3Draw.f k bt332.1 bt365.2.2.1 bt365.2.2.2).bind fun bt374 => (some (bt365.1, bt365.2.1, bt374.1, bt374.2.1)))))))
theorem spec_l5DrawBy.mono : ∀ a0 k, LeO (spec_l5DrawBy.f k a0) (spec_l5DrawBy.f (k + 1) a0) := by
  intro a0 k
  unfold spec_l5DrawBy.f
  repeat' first
      | (with_reducible exact spec_l1New.mono _ _)
      | (with_reducible exact spec_l3Draw.mono _ _ _ _)
      | (with_reducible exact spec_l5DrawN.mono _ _ _ _ _)
      | (with_reducible exact LeO.refl _)
      | (with_reducible exact LeO.none _)
      | (with_reducible refine LeO.ite ?_ ?_)
      | (with_reducible refine LeO.bind ?_ (fun _ => ?_))
      | exact spec_l1New.mono _ _
      | exact spec_l3Draw.mono _ _ _ _
      | exact spec_l5DrawN.mono _ _ _ _ _
      | exact LeO.none _
      | refine LeO.ite ?_ ?_
      | refine LeO.bind ?_ (fun _ => ?_)
set_option maxHeartbeats 8000000 in
set_option maxRecDepth 100000 in
theorem spec_l5DrawBy.calls (k : Nat) (A0 : Option Addr) (c0 : Nat) (l0 : List Int) (r1 : List Int) (r2 : List Int) (r3 : List Int) (r4 : List Int) (w : World) (hr0 : Kd.C (Kd.int .u8) w A0 l0.length l0) (hc0 : l0.length ≤ c0) (h : spec_l5DrawBy.f k l0 = some (r1, r2, r3, r4)) :
    Calls Try.prog 35 #[.slice A0 l0.length c0] w fun e w' => ∃ v0_ v1_ v2_ v3_ : Value, e = .returned (.tuple #[.agg #[v0_, v1_], .agg #[v2_, v3_]]) ∧ Kd.R (Kd.int .i64) 3 w' w.heap.size (fun k_ => some k_ ≠ (v1_ : Value).ownBlock ∧ some k_ ≠ (v2_ : Value).ownBlock ∧ some k_ ≠ (v3_ : Value).ownBlock) v0_ r1 ∧ Kd.R (Kd.int .i64) 3 w' w.heap.size (fun k_ => some k_ ≠ (v0_ : Value).ownBlock ∧ some k_ ≠ (v2_ : Value).ownBlock ∧ some k_ ≠ (v3_ : Value).ownBlock) v1_ r2 ∧ Kd.R (Kd.int .i64) 3 w' w.heap.size (fun k_ => some k_ ≠ (v0_ : Value).ownBlock ∧ some k_ ≠ (v1_ : Value).ownBlock ∧ some k_ ≠ (v3_ : Value).ownBlock) v2_ r3 ∧ Kd.R (Kd.int .i64) 3 w' w.heap.size (fun k_ => some k_ ≠ (v0_ : Value).ownBlock ∧ some k_ ≠ (v1_ : Value).ownBlock ∧ some k_ ≠ (v2_ : Value).ownBlock) v3_ r4 ∧ Below w.heap.size w w' := by
  have hu26 := Try.underlying26
  have HR0 := Aside0.mk hr0
  have HC0 := Aside0.mk hc0
  clear hr0 hc0
  have HB := Aside0.mk (Below.refl w.heap.size w)
  have H : ((spec_l1New.f k l0).bind fun bt332 => ((spec_l1Below.f bt332.1 bt332.2.1 bt332.2.2 12).bind fun bt336 => ((spec_l1Once.f bt332.1 bt336.2.1 bt336.2.2 15).bind fun bt339 => (if bt339.1 = true then ((spec_l1PickInt.f bt332.1 bt339.2.1 bt339.2.2 (([1000000000000, (-1000000000000), 300, 301] : List Int))).bind fun bt345 => ((spec_l5DrawN.f k bt332.1 bt345.2.1 bt345.2.2 bt345.1).bind fun bt348 => ((spec_l3Draw.f k bt332.1 bt348.2.2.1 bt348.2.2.2).bind fun bt357 => (some (bt348.1, bt348.2.1, bt357.1, bt357.2.1))))) else ((spec_l5DrawN.f k bt332.1 bt339.2.1 bt339.2.2 (wrap64 (bt336.1 - 5))).bind fun bt365 => ((spec_l3Draw.f k bt332.1 bt365.2.2.1 bt365.2.2.2).bind fun bt374 => (some (bt365.1, bt365.2.1, bt374.1, bt374.2.1)))))))) = some (r1, r2, r3, r4) := h
  clear h
  replace H := Option.bind_eq_some_iff.mp H
  obtain ⟨⟨t332, t333, t334⟩, A20, H⟩ := H
  replace H : ((spec_l1Below.f t332 t333 t334 12).bind fun bt336 => ((spec_l1Once.f t332 bt336.2.1 bt336.2.2 15).bind fun bt339 => (if bt339.1 = true then ((spec_l1PickInt.f t332 bt339.2.1 bt339.2.2 (([1000000000000, (-1000000000000), 300, 301] : List Int))).bind fun bt345 => ((spec_l5DrawN.f k t332 bt345.2.1 bt345.2.2 bt345.1).bind fun bt348 => ((spec_l3Draw.f k t332 bt348.2.2.1 bt348.2.2.2).bind fun bt357 => (some (bt348.1, bt348.2.1, bt357.1, bt357.2.1))))) else ((spec_l5DrawN.f k t332 bt339.2.1 bt339.2.2 (wrap64 (bt336.1 - 5))).bind fun bt365 => ((spec_l3Draw.f k t332 bt365.2.2.1 bt365.2.2.2).bind fun bt374 => (some (bt365.1, bt365.2.1, bt374.1, bt374.2.1))))))) = some (r1, r2, r3, r4) := H
  have A2 := Aside0.mk A20
  clear A20
  replace H := Option.bind_eq_some_iff.mp H
  obtain ⟨⟨t336, t337, t338⟩, A30, H⟩ := H
  replace H : ((spec_l1Once.f t332 t337 t338 15).bind fun bt339 => (if bt339.1 = true then ((spec_l1PickInt.f t332 bt339.2.1 bt339.2.2 (([1000000000000, (-1000000000000), 300, 301] : List Int))).bind fun bt345 => ((spec_l5DrawN.f k t332 bt345.2.1 bt345.2.2 bt345.1).bind fun bt348 => ((spec_l3Draw.f k t332 bt348.2.2.1 bt348.2.2.2).bind fun bt357 => (some (bt348.1, bt348.2.1, bt357.1, bt357.2.1))))) else ((spec_l5DrawN.f k t332 bt339.2.1 bt339.2.2 (wrap64 (t336 - 5))).bind fun bt365 => ((spec_l3Draw.f k t332 bt365.2.2.1 bt365.2.2.2).bind fun bt374 => (some (bt365.1, bt365.2.1, bt374.1, bt374.2.1)))))) = some (r1, r2, r3, r4) := H
  have A3 := Aside0.mk A30
  clear A30
  replace H := Option.bind_eq_some_iff.mp H
  obtain ⟨⟨t339, t340, t341⟩, A40, H⟩ := H
  replace H : (if t339 = true then ((spec_l1PickInt.f t332 t340 t341 (([1000000000000, (-1000000000000), 300, 301] : List Int))).bind fun bt345 => ((spec_l5DrawN.f k t332 bt345.2.1 bt345.2.2 bt345.1).bind fun bt348 => ((spec_l3Draw.f k t332 bt348.2.2.1 bt348.2.2.2).bind fun bt357 => (some (bt348.1, bt348.2.1, bt357.1, bt357.2.1))))) else ((spec_l5DrawN.f k t332 t340 t341 (wrap64 (t336 - 5))).bind fun bt365 => ((spec_l3Draw.f k t332 bt365.2.2.1 bt365.2.2.2).bind fun bt374 => (some (bt365.1, bt365.2.1, bt374.1, bt374.2.1))))) = some (r1, r2, r3, r4) := H
  have A4 := Aside0.mk A40
  clear A40
  by_cases c5 : t339 = true
  · subst c5
    have H1 : ((spec_l1PickInt.f t332 t340 t341 (([1000000000000, (-1000000000000), 300, 301] : List Int))).bind fun bt345 => ((spec_l5DrawN.f k t332 bt345.2.1 bt345.2.2 bt345.1).bind fun bt348 => ((spec_l3Draw.f k t332 bt348.2.2.1 bt348.2.2.2).bind fun bt357 => (some (bt348.1, bt348.2.1, bt357.1, bt357.2.1))))) = some (r1, r2, r3, r4) := by rw [if_pos rfl] at H; exact H
    clear H
    have H := H1
    clear H1
    obtain ⟨y342, hy342⟩ : ∃ y_ : List Int, y_ = (([1000000000000, (-1000000000000), 300, 301] : List Int)) := ⟨_, rfl⟩
    replace H : ((spec_l1PickInt.f t332 t340 t341 y342).bind fun bt345 => ((spec_l5DrawN.f k t332 bt345.2.1 bt345.2.2 bt345.1).bind fun bt348 => ((spec_l3Draw.f k t332 bt348.2.2.1 bt348.2.2.2).bind fun bt357 => (some (bt348.1, bt348.2.1, bt357.1, bt357.2.1))))) = some (r1, r2, r3, r4) := by first | (rw [hy342]; with_reducible exact H) | (have H2_ := (Option.bind_some _ _).symm.trans H; rw [hy342]; with_reducible exact H2_) | (have H2_ := (Option.bind_some _ _).symm.trans H; with_reducible exact H2_) | with_reducible exact H | (rw [hy342]; exact H) | exact H
    have Ny342 := Aside0.mk hy342
    clear hy342
    replace H := Option.bind_eq_some_iff.mp H
    obtain ⟨⟨t345, t346, t347⟩, A60, H⟩ := H
    replace H : ((spec_l5DrawN.f k t332 t346 t347 t345).bind fun bt348 => ((spec_l3Draw.f k t332 bt348.2.2.1 bt348.2.2.2).bind fun bt357 => (some (bt348.1, bt348.2.1, bt357.1, bt357.2.1)))) = some (r1, r2, r3, r4) := H
    have A6 := Aside0.mk A60
    clear A60
    replace H := Option.bind_eq_some_iff.mp H
    obtain ⟨⟨t348, t351, t354, t355⟩, A70, H⟩ := H
    replace H : ((spec_l3Draw.f k t332 t354 t355).bind fun bt357 => (some (t348, t351, bt357.1, bt357.2.1))) = some (r1, r2, r3, r4) := H
    have A7 := Aside0.mk A70
    clear A70
    replace H := Option.bind_eq_some_iff.mp H
    obtain ⟨⟨t357, t360, t363, t364⟩, A80, H⟩ := H
    replace H : (some (t348, t351, t357, t360)) = some (r1, r2, r3, r4) := H
    have A8 := Aside0.mk A80
    clear A80
    simp only [Option.some.injEq, Prod.mk.injEq] at H
    obtain ⟨rfl, rfl, rfl, rfl⟩ := H
    go_enter Try.func35, Try.ntmps35
    try go_wp2_with (first | ((with_reducible refine gate_dst (N := 2) rfl ?_); refine box_event ?hg (N := 2) ?hd (cs := #[.slice none 0 0, .slice none 0 0]) (t := 26) ?hr ?_; (case hd => rfl); (case hg => rfl); (case hr => first | (go_simp; done) | (go_simp; rfl)); intro gb330 hg w9 hbox hb; have BK330 := Aside0.mk (hbox); have GW330 := Aside0.mk ((by rw [hg]; exact (below_size (bU HB.out)) : w.heap.size ≤ gb330)); have GE330 := Aside0.mk ((by rw [hg]; exact (below_size (bU HB.out)) : w.heap.size ≤ gb330)); replace HB := Aside0.mk (below_step (bU HB.out) hb); clear hb hbox hg) | ((with_reducible refine gate_dst (N := 3) rfl ?_); refine box_event ?hg (N := 3) ?hd (cs := #[.slice none 0 0, .slice none 0 0]) (t := 26) ?hr ?_; (case hd => rfl); (case hg => rfl); (case hr => first | (go_simp; done) | (go_simp; rfl)); intro gb331 hg w10 hbox hb; have BK331 := Aside0.mk (hbox); have GW331 := Aside0.mk ((by rw [hg]; exact (below_size (bS1 HB.out GE330.out)) : w.heap.size ≤ gb331)); have GE331 := Aside0.mk ((by rw [hg]; exact (below_size (bS1 HB.out GE330.out)) : w.heap.size ≤ gb331)); replace HB := Aside0.mk (below_step (bS1 HB.out GE330.out) hb); have NB330_331 := Aside0.mk ((by rw [hg]; exact Nat.ne_of_lt (blk_lt (kU BK330.out)) : gb330 ≠ gb331)); have NB331_330 := Aside0.mk ((by rw [hg]; exact Nat.ne_of_gt (blk_lt (kU BK330.out)) : gb331 ≠ gb330)); replace BK330 := Aside0.mk (blk_below (kU BK330.out) hb); clear hb hbox hg) | ((with_reducible refine gate_callee (f := 58) rfl ?_); refine goesL_ (some 8) rfl rfl Try.func58 (by kernel_rfl) rfl #[.slice A0 l0.length c0] rfl (by (try simp only [List.map_toArray, List.map_cons, List.map_nil]); first | done | rfl | (simp only [List.length_drop, List.length_take]; rfl)) ?_; (with_reducible refine (spec_l1New.calls k _ _ l0 t332 t333 t334 w _ ?side1 ?side2 ?side3 A2.out).mono ?_); (case side1 => repeat (first | (with_reducible first | exact HB.out | apply below_alloc | apply pw_below_drewN | apply below_drew1 | refine below_set ?_ GE330.out | refine below_set ?_ GE331.out) | exact HB.out)); (case side2 => exact HR0.out); (case side3 => exact HC0.out); rintro e w11 ⟨g335, rfl, hi, hb, hb2⟩; refine ⟨_, rfl, ?_⟩; replace HB := Aside0.mk (hb); have HI335 := Aside0.mk (hi); have NB335_330 := Aside0.mk (IsS69.ne_blk hi (blk_below (kU BK330.out) hb2) (by decide)); have NB330_335 := Aside0.mk (Ne.symm (IsS69.ne_blk hi (blk_below (kU BK330.out) hb2) (by decide))); replace BK330 := Aside0.mk (blk_below (kU BK330.out) hb2); have NB335_331 := Aside0.mk (IsS69.ne_blk hi (blk_below (kU BK331.out) hb2) (by decide)); have NB331_335 := Aside0.mk (Ne.symm (IsS69.ne_blk hi (blk_below (kU BK331.out) hb2) (by decide))); replace BK331 := Aside0.mk (blk_below (kU BK331.out) hb2); (try clear hb); (try clear hb2); (try clear hk); (try clear hi)) | ((with_reducible refine gate_callee (f := 59) rfl ?_); refine goesL_ (some 10) rfl rfl Try.func59 (by kernel_rfl) rfl #[.pointer (some ⟨g335, 0, none⟩), .int .i64 12] rfl (by (try simp only [List.map_toArray, List.map_cons, List.map_nil]); first | done | rfl | (simp only [List.length_drop, List.length_take]; rfl)) ?_; (with_reducible refine (spec_l1Below.calls g335 t332 t333 t334 12 t336 t337 t338 w _ ?side1 ?side2 A3.out).mono ?_); (case side1 => repeat (first | (with_reducible first | exact HI335.out | apply IsS69.alloc | apply IsS69.drewN | apply IsS69.drew | apply IsS69.set_1 | apply IsS69.set_2 | refine IsS69.far ?_ NB335_330.out _ | refine IsS69.far ?_ NB335_331.out _) | exact HI335.out)); (case side2 => repeat (first | (with_reducible first | exact HB.out | apply below_alloc | apply pw_below_drewN | apply below_drew1 | refine below_set ?_ (IsS69.ge HI335.out) | refine below_set ?_ GE330.out | refine below_set ?_ GE331.out) | exact HB.out)); rintro e w12 ⟨rfl, hi, hb, hk⟩; refine ⟨_, rfl, ?_⟩; replace BK330 := Aside0.mk (KeepBut.blk hk (g' := gb330) (o := .cells #[.slice none 0 0, .slice none 0 0] 26 (0, 0)) (kU BK330.out) NB330_335.out (by simp)); replace BK331 := Aside0.mk (KeepBut.blk hk (g' := gb331) (o := .cells #[.slice none 0 0, .slice none 0 0] 26 (0, 0)) (kU BK331.out) NB331_335.out (by simp)); replace HB := Aside0.mk (hb); replace HI335 := Aside0.mk (hi); (try clear hb); (try clear hb2); (try clear hk); (try clear hi)) | ((with_reducible refine gate_callee (f := 60) rfl ?_); refine goesL_ (some 13) rfl rfl Try.func60 (by kernel_rfl) rfl #[.pointer (some ⟨g335, 0, none⟩), .int .i64 15] rfl (by (try simp only [List.map_toArray, List.map_cons, List.map_nil]); first | done | rfl | (simp only [List.length_drop, List.length_take]; rfl)) ?_; (with_reducible refine (spec_l1Once.calls g335 t332 t337 t338 15 true t340 t341 w _ ?side1 ?side2 A4.out).mono ?_); (case side1 => repeat (first | (with_reducible first | exact HI335.out | apply IsS69.alloc | apply IsS69.drewN | apply IsS69.drew | apply IsS69.set_1 | apply IsS69.set_2 | refine IsS69.far ?_ NB335_330.out _ | refine IsS69.far ?_ NB335_331.out _) | exact HI335.out)); (case side2 => repeat (first | (with_reducible first | exact HB.out | apply below_alloc | apply pw_below_drewN | apply below_drew1 | refine below_set ?_ (IsS69.ge HI335.out) | refine below_set ?_ GE330.out | refine below_set ?_ GE331.out) | exact HB.out)); rintro e w13 ⟨rfl, hi, hb, hk⟩; refine ⟨_, rfl, ?_⟩; replace BK330 := Aside0.mk (KeepBut.blk hk (g' := gb330) (o := .cells #[.slice none 0 0, .slice none 0 0] 26 (0, 0)) (kU BK330.out) NB330_335.out (by simp)); replace BK331 := Aside0.mk (KeepBut.blk hk (g' := gb331) (o := .cells #[.slice none 0 0, .slice none 0 0] 26 (0, 0)) (kU BK331.out) NB331_335.out (by simp)); replace HB := Aside0.mk (hb); replace HI335 := Aside0.mk (hi); (try clear hb); (try clear hb2); (try clear hk); (try clear hi)) | ((with_reducible refine gate_dst (N := 15) rfl ?_); refine Kd.R_lit (Kd.int .i64) _ 3 ?hg (N := 15) ?hd (xs := ([1000000000000, (-1000000000000), 300, 301] : List Int)) (inner := [.int .i64 1000000000000, .int .i64 (-1000000000000), .int .i64 300, .int .i64 301]) (ok := fun _ => True) (okp := fun _ => True) ?hr ?hp (fun _ hk => hk) trivial (Below.refl _ _) (Nat.le_refl _) (by simp) ?_; (case hd => rfl); (case hg => rfl); (case hr => first | (go_simp; done) | (go_simp; rfl)); (case hp => exact (Reps.one (show Kd.M (Kd.int .i64) _ _ _ 1000000000000 [.int .i64 1000000000000] from rfl) (Reps.one (show Kd.M (Kd.int .i64) _ _ _ (-1000000000000) [.int .i64 (-1000000000000)] from rfl) (Reps.one (show Kd.M (Kd.int .i64) _ _ _ 300 [.int .i64 300] from rfl) (Reps.one (show Kd.M (Kd.int .i64) _ _ _ 301 [.int .i64 301] from rfl) (Reps.none _ _)))))); intro v343 w14 ho15 hb hg_ hnew_; clear hg_ hnew_; (first | rw [← Ny342.out] at ho15 | (simp only [Int.reduceToNat] at ho15; rw [← Ny342.out] at ho15)); have HO344 := Aside0.mk (Kd.R_lower ho15 (below_size (by repeat (first | (with_reducible first | exact HB.out | apply below_alloc | apply pw_below_drewN | apply below_drew1 | refine below_set ?_ (IsS69.ge HI335.out) | refine below_set ?_ GE330.out | refine below_set ?_ GE331.out) | exact HB.out)))); replace BK330 := Aside0.mk (blk_below (kU BK330.out) hb); replace BK331 := Aside0.mk (blk_below (kU BK331.out) hb); replace HB := Aside0.mk (below_step (by repeat (first | (with_reducible first | exact HB.out | apply below_alloc | apply pw_below_drewN | apply below_drew1 | refine below_set ?_ (IsS69.ge HI335.out) | refine below_set ?_ GE330.out | refine below_set ?_ GE331.out) | exact HB.out)) hb); replace HI335 := Aside0.mk (IsS69.below (by repeat (first | (with_reducible first | exact HI335.out | apply IsS69.alloc | apply IsS69.drewN | apply IsS69.drew | apply IsS69.set_1 | apply IsS69.set_2 | refine IsS69.far ?_ NB335_330.out _ | refine IsS69.far ?_ NB335_331.out _) | exact HI335.out)) hb); clear hb ho15; obtain ⟨Ao16, co16, eo16⟩ := Kd.R_slice HO344.out; subst eo16) | ((with_reducible refine gate_callee (f := 61) rfl ?_); refine goesL_ (some 16) rfl rfl Try.func61 (by kernel_rfl) rfl #[.pointer (some ⟨g335, 0, none⟩), .slice Ao16 y342.length co16] rfl (by (try simp only [List.map_toArray, List.map_cons, List.map_nil]); first | done | rfl | (simp only [List.length_drop, List.length_take]; rfl)) ?_; (with_reducible refine (spec_l1PickInt.calls g335 t332 t340 t341 _ _ y342 t345 t346 t347 w _ ?side1 ?side2 ?side3 ?side4 ?side5 A6.out).mono ?_); (case side1 => repeat (first | (with_reducible first | exact HI335.out | apply IsS69.alloc | apply IsS69.drewN | apply IsS69.drew | apply IsS69.set_1 | apply IsS69.set_2 | refine IsS69.far ?_ NB335_330.out _ | refine IsS69.far ?_ NB335_331.out _) | exact HI335.out)); (case side2 => repeat (first | (with_reducible first | exact HB.out | apply below_alloc | apply pw_below_drewN | apply below_drew1 | refine below_set ?_ (IsS69.ge HI335.out) | refine below_set ?_ GE330.out | refine below_set ?_ GE331.out) | exact HB.out)); (case side3 => exact cU (Kd.R_reads' HO344.out).2.2); (case side4 => exact (Kd.R_reads' HO344.out).2.1); (case side5 => exact far_slice (IsS69.own_ne HI335.out HO344.out (by decide))); rintro e w17 ⟨rfl, hi, hb, hk⟩; refine ⟨_, rfl, ?_⟩; replace BK330 := Aside0.mk (KeepBut.blk hk (g' := gb330) (o := .cells #[.slice none 0 0, .slice none 0 0] 26 (0, 0)) (kU BK330.out) NB330_335.out (by simp)); replace BK331 := Aside0.mk (KeepBut.blk hk (g' := gb331) (o := .cells #[.slice none 0 0, .slice none 0 0] 26 (0, 0)) (kU BK331.out) NB331_335.out (by simp)); replace HO344 := Aside0.mk (Kd.R_mono (Kd.R_keep (IsS69.apart (show IsS69 w _ g335 t332 t340 t341 from by repeat (first | (with_reducible first | exact HI335.out | apply IsS69.alloc | apply IsS69.drewN | apply IsS69.drew | apply IsS69.set_1 | apply IsS69.set_2 | refine IsS69.far ?_ NB335_330.out _ | refine IsS69.far ?_ NB335_331.out _) | exact HI335.out)) (RU HO344.out) (by decide)) hk (fun _ h => h.2)) (fun _ h => h.1)); replace HB := Aside0.mk (hb); replace HI335 := Aside0.mk (hi); (try clear hb); (try clear hb2); (try clear hk); (try clear hi)) | ((with_reducible refine gate_callee (f := 62) rfl ?_); refine goesL_ (some 19) rfl rfl Try.func62 (by kernel_rfl) rfl #[.pointer (some ⟨g335, 0, none⟩), .int .i64 t345] rfl (by (try simp only [List.map_toArray, List.map_cons, List.map_nil]); first | done | rfl | (simp only [List.length_drop, List.length_take]; rfl)) ?_; (with_reducible refine (spec_l5DrawN.calls k g335 t332 t346 t347 t345 t348 t351 t354 t355 w _ ?side1 ?side2 A7.out).mono ?_); (case side1 => repeat (first | (with_reducible first | exact HI335.out | apply IsS69.alloc | apply IsS69.drewN | apply IsS69.drew | apply IsS69.set_1 | apply IsS69.set_2 | refine IsS69.far ?_ NB335_330.out _ | refine IsS69.far ?_ NB335_331.out _) | exact HI335.out)); (case side2 => repeat (first | (with_reducible first | exact HB.out | apply below_alloc | apply pw_below_drewN | apply below_drew1 | refine below_set ?_ (IsS69.ge HI335.out) | refine below_set ?_ GE330.out | refine below_set ?_ GE331.out) | exact HB.out)); rintro e w18 ⟨v349, v352, rfl, ho0, ho1, hi, hb, hk⟩; refine ⟨_, rfl, ?_⟩; replace BK330 := Aside0.mk (KeepBut.blk hk (g' := gb330) (o := .cells #[.slice none 0 0, .slice none 0 0] 26 (0, 0)) (kU BK330.out) NB330_335.out (by simp)); replace BK331 := Aside0.mk (KeepBut.blk hk (g' := gb331) (o := .cells #[.slice none 0 0, .slice none 0 0] 26 (0, 0)) (kU BK331.out) NB331_335.out (by simp)); have HO350 := Aside0.mk (Kd.R_lower (Kd.R_new' ho0 (Kd.R_lt (RU HO344.out))) (below_size (by repeat (first | (with_reducible first | exact HB.out | apply below_alloc | apply pw_below_drewN | apply below_drew1 | refine below_set ?_ (IsS69.ge HI335.out) | refine below_set ?_ GE330.out | refine below_set ?_ GE331.out) | exact HB.out)))); have HO353 := Aside0.mk (Kd.R_lower (Kd.R_new' ho1 (Kd.R_lt (RU HO344.out))) (below_size (by repeat (first | (with_reducible first | exact HB.out | apply below_alloc | apply pw_below_drewN | apply below_drew1 | refine below_set ?_ (IsS69.ge HI335.out) | refine below_set ?_ GE330.out | refine below_set ?_ GE331.out) | exact HB.out)))); replace HO344 := Aside0.mk (Kd.R_mono (Kd.R_told (Kd.R_told (Kd.R_oldK (IsS69.apart (show IsS69 w _ g335 t332 t346 t347 from by repeat (first | (with_reducible first | exact HI335.out | apply IsS69.alloc | apply IsS69.drewN | apply IsS69.drew | apply IsS69.set_1 | apply IsS69.set_2 | refine IsS69.far ?_ NB335_330.out _ | refine IsS69.far ?_ NB335_331.out _) | exact HI335.out)) (RU HO344.out) (by decide)) hk) (Kd.R_base ho0)) (Kd.R_base ho1)) (fun _ h_ => h_.1)); replace HB := Aside0.mk (hb); replace HI335 := Aside0.mk (hi); (try clear hb); (try clear hb2); (try clear hk); (try clear hi); (try clear ho0); (try clear ho1)) | ((with_reducible refine gate_dst (N := 6) rfl ?_); refine box_event ?hg (N := 6) ?hd (cs := #[.slice none 0 0, .slice none 0 0]) (t := 26) ?hr ?_; (case hd => rfl); (case hg => rfl); (case hr => first | (go_simp; done) | (go_simp; rfl)); intro gb356 hg w19 hbox hb; replace HO344 := Aside0.mk (Kd.R_below (RU HO344.out) hb); replace HO350 := Aside0.mk (Kd.R_below (RU HO350.out) hb); replace HO353 := Aside0.mk (Kd.R_below (RU HO353.out) hb); have BK356 := Aside0.mk (hbox); have GW356 := Aside0.mk ((by rw [hg]; exact (below_size (by repeat (first | (with_reducible first | exact HB.out | apply below_alloc | apply pw_below_drewN | apply below_drew1 | refine below_set ?_ (IsS69.ge HI335.out) | refine below_set ?_ GE330.out | refine below_set ?_ GE331.out) | exact HB.out))) : w.heap.size ≤ gb356)); have GE356 := Aside0.mk ((by rw [hg]; exact (below_size (by repeat (first | (with_reducible first | exact HB.out | apply below_alloc | apply pw_below_drewN | apply below_drew1 | refine below_set ?_ (IsS69.ge HI335.out) | refine below_set ?_ GE330.out | refine below_set ?_ GE331.out) | exact HB.out))) : w.heap.size ≤ gb356)); replace HB := Aside0.mk (below_step (by repeat (first | (with_reducible first | exact HB.out | apply below_alloc | apply pw_below_drewN | apply below_drew1 | refine below_set ?_ (IsS69.ge HI335.out) | refine below_set ?_ GE330.out | refine below_set ?_ GE331.out) | exact HB.out)) hb); have NB330_356 := Aside0.mk ((by rw [hg]; exact Nat.ne_of_lt (blk_lt (kU BK330.out)) : gb330 ≠ gb356)); have NB356_330 := Aside0.mk ((by rw [hg]; exact Nat.ne_of_gt (blk_lt (kU BK330.out)) : gb356 ≠ gb330)); replace BK330 := Aside0.mk (blk_below (kU BK330.out) hb); have NB331_356 := Aside0.mk ((by rw [hg]; exact Nat.ne_of_lt (blk_lt (kU BK331.out)) : gb331 ≠ gb356)); have NB356_331 := Aside0.mk ((by rw [hg]; exact Nat.ne_of_gt (blk_lt (kU BK331.out)) : gb356 ≠ gb331)); replace BK331 := Aside0.mk (blk_below (kU BK331.out) hb); have NB335_356 := Aside0.mk ((by rw [hg]; exact Nat.ne_of_lt (IsS69.lt (show IsS69 w _ g335 t332 t354 t355 from by repeat (first | (with_reducible first | exact HI335.out | apply IsS69.alloc | apply IsS69.drewN | apply IsS69.drew | apply IsS69.set_1 | apply IsS69.set_2 | refine IsS69.far ?_ NB335_330.out _ | refine IsS69.far ?_ NB335_331.out _) | exact HI335.out))) : g335 ≠ gb356)); have NB356_335 := Aside0.mk ((by rw [hg]; exact Nat.ne_of_gt (IsS69.lt (show IsS69 w _ g335 t332 t354 t355 from by repeat (first | (with_reducible first | exact HI335.out | apply IsS69.alloc | apply IsS69.drewN | apply IsS69.drew | apply IsS69.set_1 | apply IsS69.set_2 | refine IsS69.far ?_ NB335_330.out _ | refine IsS69.far ?_ NB335_331.out _) | exact HI335.out))) : gb356 ≠ g335)); replace HI335 := Aside0.mk (IsS69.below (by repeat (first | (with_reducible first | exact HI335.out | apply IsS69.alloc | apply IsS69.drewN | apply IsS69.drew | apply IsS69.set_1 | apply IsS69.set_2 | refine IsS69.far ?_ NB335_330.out _ | refine IsS69.far ?_ NB335_331.out _) | exact HI335.out)) hb); clear hb hbox hg; obtain ⟨Ao20, co20, eo20⟩ := Kd.R_slice HO350.out; subst eo20; have hnb21 := NB356_330.out; have hnc21 := NB330_356.out; have hnb22 := NB356_331.out; have hnc22 := NB331_356.out; have hnb23 := NB356_335.out; have hnc23 := NB335_356.out; have hcz24_0 : w19.cell? ⟨gb356, 0, none⟩ = some (.slice none 0 0) := (blk_cell BK356.out 0).trans rfl; have hcz24_1 : w19.cell? ⟨gb356, 1, none⟩ = some (.slice none 0 0) := (blk_cell BK356.out 1).trans rfl; have hfz24_0 := blk_frozen BK356.out 0; have hfz24_1 := blk_frozen BK356.out 1; obtain ⟨Ao25, co25, eo25⟩ := Kd.R_slice HO353.out; subst eo25))
    have n0_ : Aside0 (Kd.R (Kd.int .i64) 3 ((w19.setCell ⟨gb356, 0, none⟩ (.slice Ao20 t348.length co20)).setCell ⟨gb356, 1, none⟩ (.slice Ao25 t351.length co25)) w.heap.size (fun k_ => some k_ ≠ (.slice Ao20 t348.length co20 : Value).ownBlock ∧ some k_ ≠ (.slice Ao25 t351.length co25 : Value).ownBlock) (.slice Ao16 y342.length co16) y342) := ⟨by (with_reducible repeat (first | apply Kd.R_alloc | apply Kd.R_drewN | apply Kd.R_drew)); exact Kd.R_mono (Kd.R_far (p := ⟨gb356, 1, none⟩) (Kd.R_far (p := ⟨gb356, 0, none⟩) (Kd.R_types HO344.out BK356.out (by decide)) (fun _ hk => hk.2) (.slice Ao20 t348.length co20)) (fun _ hk => hk.2) (.slice Ao25 t351.length co25)) (fun _ hk => ⟨hk.1.1.2, hk.1.2⟩)⟩
    have n1_ : Aside0 (Kd.R (Kd.int .i64) 3 ((w19.setCell ⟨gb356, 0, none⟩ (.slice Ao20 t348.length co20)).setCell ⟨gb356, 1, none⟩ (.slice Ao25 t351.length co25)) w.heap.size (fun k_ => some k_ ≠ (.slice Ao16 y342.length co16 : Value).ownBlock ∧ some k_ ≠ (.slice Ao25 t351.length co25 : Value).ownBlock) (.slice Ao20 t348.length co20) t348) := ⟨by (with_reducible repeat (first | apply Kd.R_alloc | apply Kd.R_drewN | apply Kd.R_drew)); exact Kd.R_mono (Kd.R_far (p := ⟨gb356, 1, none⟩) (Kd.R_far (p := ⟨gb356, 0, none⟩) (Kd.R_types HO350.out BK356.out (by decide)) (fun _ hk => hk.2) (.slice Ao20 t348.length co20)) (fun _ hk => hk.2) (.slice Ao25 t351.length co25)) (fun _ hk => ⟨hk.1.2, hk.1.1⟩)⟩
    have n2_ : Aside0 (Kd.R (Kd.int .i64) 3 ((w19.setCell ⟨gb356, 0, none⟩ (.slice Ao20 t348.length co20)).setCell ⟨gb356, 1, none⟩ (.slice Ao25 t351.length co25)) w.heap.size (fun k_ => some k_ ≠ (.slice Ao16 y342.length co16 : Value).ownBlock ∧ some k_ ≠ (.slice Ao20 t348.length co20 : Value).ownBlock) (.slice Ao25 t351.length co25) t351) := ⟨by (with_reducible repeat (first | apply Kd.R_alloc | apply Kd.R_drewN | apply Kd.R_drew)); exact Kd.R_mono (Kd.R_far (p := ⟨gb356, 1, none⟩) (Kd.R_far (p := ⟨gb356, 0, none⟩) (Kd.R_types HO353.out BK356.out (by decide)) (fun _ hk => hk.2) (.slice Ao20 t348.length co20)) (fun _ hk => hk.2) (.slice Ao25 t351.length co25)) (fun _ hk => ⟨hk.1.2, hk.1.1⟩)⟩
    have n3_ : Aside0 (((w19.setCell ⟨gb356, 0, none⟩ (.slice Ao20 t348.length co20)).setCell ⟨gb356, 1, none⟩ (.slice Ao25 t351.length co25)).heap[gb330]? = some (.cells #[.slice none 0 0, .slice none 0 0] 26 (0, 0))) := ⟨by (with_reducible repeat (first | refine blk_drewN ?_ _ | refine blk_drew ?_ | refine blk_alloc ?_ _)); refine blk_far ?_ NB330_356.out _; (with_reducible repeat (first | refine blk_drewN ?_ _ | refine blk_drew ?_ | refine blk_alloc ?_ _)); refine blk_far ?_ NB330_356.out _; (with_reducible repeat (first | refine blk_drewN ?_ _ | refine blk_drew ?_ | refine blk_alloc ?_ _)); exact BK330.out⟩
    have n4_ : Aside0 (((w19.setCell ⟨gb356, 0, none⟩ (.slice Ao20 t348.length co20)).setCell ⟨gb356, 1, none⟩ (.slice Ao25 t351.length co25)).heap[gb331]? = some (.cells #[.slice none 0 0, .slice none 0 0] 26 (0, 0))) := ⟨by (with_reducible repeat (first | refine blk_drewN ?_ _ | refine blk_drew ?_ | refine blk_alloc ?_ _)); refine blk_far ?_ NB331_356.out _; (with_reducible repeat (first | refine blk_drewN ?_ _ | refine blk_drew ?_ | refine blk_alloc ?_ _)); refine blk_far ?_ NB331_356.out _; (with_reducible repeat (first | refine blk_drewN ?_ _ | refine blk_drew ?_ | refine blk_alloc ?_ _)); exact BK331.out⟩
    have n5_ : Aside0 (((w19.setCell ⟨gb356, 0, none⟩ (.slice Ao20 t348.length co20)).setCell ⟨gb356, 1, none⟩ (.slice Ao25 t351.length co25)).heap[gb356]? = some (.cells #[.slice Ao20 t348.length co20, .slice Ao25 t351.length co25] 26 (0, 0))) := ⟨by (with_reducible repeat (first | refine blk_drewN ?_ _ | refine blk_drew ?_ | refine blk_alloc ?_ _)); refine blk_put (cs := #[.slice Ao20 t348.length co20, .slice none 0 0]) ?_ 1 _ rfl; (with_reducible repeat (first | refine blk_drewN ?_ _ | refine blk_drew ?_ | refine blk_alloc ?_ _)); refine blk_put (cs := #[.slice none 0 0, .slice none 0 0]) ?_ 0 _ rfl; (with_reducible repeat (first | refine blk_drewN ?_ _ | refine blk_drew ?_ | refine blk_alloc ?_ _)); exact BK356.out⟩
    have n6_ : Aside0 (IsS69 w ((w19.setCell ⟨gb356, 0, none⟩ (.slice Ao20 t348.length co20)).setCell ⟨gb356, 1, none⟩ (.slice Ao25 t351.length co25)) g335 t332 t354 t355) := ⟨by repeat (first | (with_reducible first | exact HI335.out | apply IsS69.alloc | apply IsS69.drewN | apply IsS69.drew | apply IsS69.set_1 | apply IsS69.set_2 | refine IsS69.far ?_ NB335_330.out _ | refine IsS69.far ?_ NB335_331.out _ | refine IsS69.far ?_ NB335_356.out _) | exact HI335.out)⟩
    have n7_ : Aside0 (Below w.heap.size w ((w19.setCell ⟨gb356, 0, none⟩ (.slice Ao20 t348.length co20)).setCell ⟨gb356, 1, none⟩ (.slice Ao25 t351.length co25))) := ⟨by repeat (first | (with_reducible first | exact HB.out | apply below_alloc | apply pw_below_drewN | apply below_drew1 | refine below_set ?_ (IsS69.ge HI335.out) | refine below_set ?_ GE330.out | refine below_set ?_ GE331.out | refine below_set ?_ GE356.out) | exact HB.out)⟩
    (try clear HO344)
    (try clear HO350)
    (try clear HO353)
    (try clear BK330)
    (try clear BK331)
    (try clear BK356)
    (try clear HI335)
    (try clear HB)
    generalize ((w19.setCell ⟨gb356, 0, none⟩ (.slice Ao20 t348.length co20)).setCell ⟨gb356, 1, none⟩ (.slice Ao25 t351.length co25)) = w26 at n0_ n1_ n2_ n3_ n4_ n5_ n6_ n7_ ⊢
    have HO344 := n0_
    have HO350 := n1_
    have HO353 := n2_
    have BK330 := n3_
    have BK331 := n4_
    have BK356 := n5_
    have HI335 := n6_
    have HB := n7_
    clear n0_ n1_ n2_ n3_ n4_ n5_ n6_ n7_
    replace HO344 := Aside0.mk (Kd.R_drew HO344.out)
    replace HO350 := Aside0.mk (Kd.R_drew HO350.out)
    replace HO353 := Aside0.mk (Kd.R_drew HO353.out)
    replace BK330 := Aside0.mk (blk_drew BK330.out)
    replace BK331 := Aside0.mk (blk_drew BK331.out)
    replace BK356 := Aside0.mk (blk_drew BK356.out)
    replace HI335 := Aside0.mk (IsS69.drew HI335.out)
    replace HB := Aside0.mk (below_drew1 HB.out)
    refine start_ (n := 5) (S := fun w' => w'.cell? ⟨gb356, 0, none⟩ = some (.slice Ao20 t348.length co20) ∧ w'.cell? ⟨gb356, 1, none⟩ = some (.slice Ao25 t351.length co25)) (ds := []) #[false, false, false, false, false] (by kernel_rfl) rfl rfl ⟨(blk_cell BK356.out 0).trans rfl, (blk_cell BK356.out 1).trans rfl⟩ (fun hHeld => ?_)
    generalize w26.drew = w27 at HO344 HO350 HO353 BK330 BK331 BK356 HI335 HB hHeld ⊢
    refine pure_ (i := 1) (N := some 21) (v := ?_) (a' := ?_) #[false, true, false, false, false] rfl rfl (by kernel_rfl) (fun _ _ _ h => h) (Or.inl ⟨by rfl, ?_⟩) ?_ ?_
    rotate_left
    · intro w'
      go_simp
      with_reducible rfl
    rotate_left
    · simp only [Act.put, List.setIfInBounds_toArray, List.set_cons_zero, List.set_cons_succ, i64_w, i32_w]
      rfl
    refine take_ (i := 0) (N := some 20) (v := ?_) (a' := ?_) #[true, true, false, false, false] rfl rfl (by kernel_rfl) (fun _ _ _ h => h) (Or.inl ⟨by rfl, ?_⟩) hHeld ?_ ?_
    rotate_left
    · rintro w' ⟨s0, s1⟩
      go_simp
      with_reducible rfl
    rotate_left
    · simp only [Act.put, List.setIfInBounds_toArray, List.set_cons_zero, List.set_cons_succ, i64_w, i32_w]
      rfl
    refine one_ (i := 2) (N := some 22) #[true, true, true, false, false] rfl rfl (by kernel_rfl) (by decide) (fun K hK => ?_)
    refine goes_ Try.func63 (by kernel_rfl) rfl #[.pointer (some ⟨g335, 0, none⟩)] (by rfl) rfl rfl (by (try simp only [List.map_toArray, List.map_cons, List.map_nil]); first | done | rfl | (simp only [List.length_drop, List.length_take]; rfl)) ?_
    with_reducible refine (spec_l3Draw.calls k g335 t332 t354 t355 t357 t360 t363 t364 w _ ?side1 ?side2 A8.out).mono ?_
    (case side1 => repeat (first | (with_reducible first | exact HI335.out | apply IsS69.alloc | apply IsS69.drewN | apply IsS69.drew | apply IsS69.set_1 | apply IsS69.set_2 | refine IsS69.far ?_ NB335_330.out _ | refine IsS69.far ?_ NB335_331.out _ | refine IsS69.far ?_ NB335_356.out _) | exact HI335.out))
    (case side2 => repeat (first | (with_reducible first | exact HB.out | apply below_alloc | apply pw_below_drewN | apply below_drew1 | refine below_set ?_ (IsS69.ge HI335.out) | refine below_set ?_ GE330.out | refine below_set ?_ GE331.out | refine below_set ?_ GE356.out) | exact HB.out))
    rintro e w28 ⟨v358, v361, rfl, ho0, ho1, hi, hb, hk⟩
    refine ⟨_, rfl, ?_⟩
    replace BK330 := Aside0.mk (KeepBut.blk hk (g' := gb330) (o := .cells #[.slice none 0 0, .slice none 0 0] 26 (0, 0)) (kU BK330.out) NB330_335.out (by simp))
    replace BK331 := Aside0.mk (KeepBut.blk hk (g' := gb331) (o := .cells #[.slice none 0 0, .slice none 0 0] 26 (0, 0)) (kU BK331.out) NB331_335.out (by simp))
    replace BK356 := Aside0.mk (KeepBut.blk hk (g' := gb356) (o := .cells #[.slice Ao20 t348.length co20, .slice Ao25 t351.length co25] 26 (0, 0)) (kU BK356.out) NB356_335.out (by simp))
    have HO359 := Aside0.mk (Kd.R_lower (Kd.R_new' (Kd.R_new' (Kd.R_new' ho0 (Kd.R_lt (RU HO344.out))) (Kd.R_lt (RU HO350.out))) (Kd.R_lt (RU HO353.out))) (below_size (by repeat (first | (with_reducible first | exact HB.out | apply below_alloc | apply pw_below_drewN | apply below_drew1 | refine below_set ?_ (IsS69.ge HI335.out) | refine below_set ?_ GE330.out | refine below_set ?_ GE331.out | refine below_set ?_ GE356.out) | exact HB.out))))
    have HO362 := Aside0.mk (Kd.R_lower (Kd.R_new' (Kd.R_new' (Kd.R_new' ho1 (Kd.R_lt (RU HO344.out))) (Kd.R_lt (RU HO350.out))) (Kd.R_lt (RU HO353.out))) (below_size (by repeat (first | (with_reducible first | exact HB.out | apply below_alloc | apply pw_below_drewN | apply below_drew1 | refine below_set ?_ (IsS69.ge HI335.out) | refine below_set ?_ GE330.out | refine below_set ?_ GE331.out | refine below_set ?_ GE356.out) | exact HB.out))))
    replace HO344 := Aside0.mk (Kd.R_mono (Kd.R_told (Kd.R_told (Kd.R_oldK (IsS69.apart (show IsS69 w _ g335 t332 t354 t355 from by repeat (first | (with_reducible first | exact HI335.out | apply IsS69.alloc | apply IsS69.drewN | apply IsS69.drew | apply IsS69.set_1 | apply IsS69.set_2 | refine IsS69.far ?_ NB335_330.out _ | refine IsS69.far ?_ NB335_331.out _ | refine IsS69.far ?_ NB335_356.out _) | exact HI335.out)) (RU HO344.out) (by decide)) hk) (Kd.R_base ho0)) (Kd.R_base ho1)) (fun _ h_ => h_.1))
    replace HO350 := Aside0.mk (Kd.R_mono (Kd.R_told (Kd.R_told (Kd.R_oldK (IsS69.apart (show IsS69 w _ g335 t332 t354 t355 from by repeat (first | (with_reducible first | exact HI335.out | apply IsS69.alloc | apply IsS69.drewN | apply IsS69.drew | apply IsS69.set_1 | apply IsS69.set_2 | refine IsS69.far ?_ NB335_330.out _ | refine IsS69.far ?_ NB335_331.out _ | refine IsS69.far ?_ NB335_356.out _) | exact HI335.out)) (RU HO350.out) (by decide)) hk) (Kd.R_base ho0)) (Kd.R_base ho1)) (fun _ h_ => h_.1))
    replace HO353 := Aside0.mk (Kd.R_mono (Kd.R_told (Kd.R_told (Kd.R_oldK (IsS69.apart (show IsS69 w _ g335 t332 t354 t355 from by repeat (first | (with_reducible first | exact HI335.out | apply IsS69.alloc | apply IsS69.drewN | apply IsS69.drew | apply IsS69.set_1 | apply IsS69.set_2 | refine IsS69.far ?_ NB335_330.out _ | refine IsS69.far ?_ NB335_331.out _ | refine IsS69.far ?_ NB335_356.out _) | exact HI335.out)) (RU HO353.out) (by decide)) hk) (Kd.R_base ho0)) (Kd.R_base ho1)) (fun _ h_ => h_.1))
    replace HB := Aside0.mk (hb)
    replace HI335 := Aside0.mk (hi)
    (try clear hb)
    (try clear hb2)
    (try clear hk)
    (try clear hi)
    (try clear ho0)
    (try clear ho1)
    obtain ⟨Ao31, co31, eo31⟩ := Kd.R_slice HO359.out
    (first | subst eo31 | (injection eo31 with f1_ f2_ f3_; have f4_ := f1_.symm; have f5_ := f3_.symm; clear f1_ f2_ f3_; subst f4_; subst f5_))
    obtain ⟨Ao33, co33, eo33⟩ := Kd.R_slice HO362.out
    (first | subst eo33 | (injection eo33 with f1_ f2_ f3_; have f4_ := f1_.symm; have f5_ := f3_.symm; clear f1_ f2_ f3_; subst f4_; subst f5_))
    refine hK.out _ _ ⟨(blk_cell BK356.out 0).trans rfl, (blk_cell BK356.out 1).trans rfl⟩ (fun hHeld => ?_)
    clear hK K
    refine norm_ (a' := ?_) ?_ ?_
    rotate_left
    · show Act.put _ (some 22) _ = _
      simp only [Act.put, List.setIfInBounds_toArray, List.set_cons_zero, List.set_cons_succ, i64_w, i32_w]
      rfl
    refine one_ (i := 3) (N := none) #[true, true, true, true, false] rfl rfl (by kernel_rfl) (by decide) (fun K hK => ?_)
    have hs29 : w28.cell? ⟨gb330, 0, none⟩ = some (.slice none 0 0) := (blk_cell BK330.out 0).trans rfl
    have hfs29 := blk_frozen BK330.out 0
    have hns29_1 := NB331_330.out
    have hns29_2 := NB356_330.out
    have hms29_1 := NB330_331.out
    have hms29_2 := NB330_356.out
    have hs30 : w28.cell? ⟨gb330, 1, none⟩ = some (.slice none 0 0) := (blk_cell BK330.out 1).trans rfl
    have hfs30 := blk_frozen BK330.out 1
    have hns30_1 := NB331_330.out
    have hns30_2 := NB356_330.out
    have hms30_1 := NB330_331.out
    have hms30_2 := NB330_356.out
    refine skip_ (w1 := ?_) (by rfl) rfl ?_ ?_
    rotate_left
    · go_simp
      rfl
    refine hK.out _ _ ⟨((cell_far (p := ⟨gb330, _, none⟩) NB356_330.out _).trans (((cell_far (p := ⟨gb330, _, none⟩) NB356_330.out _).trans (hHeld.1)))), ((cell_far (p := ⟨gb330, _, none⟩) NB356_330.out _).trans (((cell_far (p := ⟨gb330, _, none⟩) NB356_330.out _).trans (hHeld.2))))⟩ (fun hHeld => ?_)
    clear hK K
    refine one_ (i := 4) (N := none) #[true, true, true, true, true] rfl rfl (by kernel_rfl) (by decide) (fun K hK => ?_)
    have hs32 : w28.cell? ⟨gb331, 0, none⟩ = some (.slice none 0 0) := (blk_cell BK331.out 0).trans rfl
    have hfs32 := blk_frozen BK331.out 0
    have hns32_0 := NB330_331.out
    have hns32_2 := NB356_331.out
    have hms32_0 := NB331_330.out
    have hms32_2 := NB331_356.out
    have hs34 : w28.cell? ⟨gb331, 1, none⟩ = some (.slice none 0 0) := (blk_cell BK331.out 1).trans rfl
    have hfs34 := blk_frozen BK331.out 1
    have hns34_0 := NB330_331.out
    have hns34_2 := NB356_331.out
    have hms34_0 := NB331_330.out
    have hms34_2 := NB331_356.out
    refine skip_ (w1 := ?_) (by rfl) rfl ?_ ?_
    rotate_left
    · go_simp
      rfl
    refine hK.out _ _ ⟨((cell_far (p := ⟨gb331, _, none⟩) NB356_331.out _).trans (((cell_far (p := ⟨gb331, _, none⟩) NB356_331.out _).trans (hHeld.1)))), ((cell_far (p := ⟨gb331, _, none⟩) NB356_331.out _).trans (((cell_far (p := ⟨gb331, _, none⟩) NB356_331.out _).trans (hHeld.2))))⟩ (fun hHeld => ?_)
    clear hK K
    refine done_ (by kernel_rfl) ?_
    try go_wp2
    refine bodyPost_ret (results_cc rfl _ _ gb330 gb331 26 26 #[.slice Ao20 t348.length co20, .slice Ao25 t351.length co25] #[.slice Ao31 t357.length co31, .slice Ao33 t360.length co33] (0, 0) (0, 0) _ _ rfl (by (with_reducible repeat (first | refine blk_drewN ?_ _ | refine blk_drew ?_ | refine blk_alloc ?_ _)); refine blk_far ?_ NB330_331.out _; (with_reducible repeat (first | refine blk_drewN ?_ _ | refine blk_drew ?_ | refine blk_alloc ?_ _)); refine blk_far ?_ NB330_331.out _; (with_reducible repeat (first | refine blk_drewN ?_ _ | refine blk_drew ?_ | refine blk_alloc ?_ _)); refine blk_put (cs := #[.slice Ao20 t348.length co20, .slice none 0 0]) ?_ 1 _ rfl; (with_reducible repeat (first | refine blk_drewN ?_ _ | refine blk_drew ?_ | refine blk_alloc ?_ _)); refine blk_put (cs := #[.slice none 0 0, .slice none 0 0]) ?_ 0 _ rfl; (with_reducible repeat (first | refine blk_drewN ?_ _ | refine blk_drew ?_ | refine blk_alloc ?_ _)); exact BK330.out) Try.underlying26 rfl (by kernel_rfl) rfl (by (with_reducible repeat (first | refine blk_drewN ?_ _ | refine blk_drew ?_ | refine blk_alloc ?_ _)); refine blk_put (cs := #[.slice Ao31 t357.length co31, .slice none 0 0]) ?_ 1 _ rfl; (with_reducible repeat (first | refine blk_drewN ?_ _ | refine blk_drew ?_ | refine blk_alloc ?_ _)); refine blk_put (cs := #[.slice none 0 0, .slice none 0 0]) ?_ 0 _ rfl; (with_reducible repeat (first | refine blk_drewN ?_ _ | refine blk_drew ?_ | refine blk_alloc ?_ _)); refine blk_far ?_ NB331_330.out _; (with_reducible repeat (first | refine blk_drewN ?_ _ | refine blk_drew ?_ | refine blk_alloc ?_ _)); refine blk_far ?_ NB331_330.out _; (with_reducible repeat (first | refine blk_drewN ?_ _ | refine blk_drew ?_ | refine blk_alloc ?_ _)); exact BK331.out) Try.underlying26 rfl (by kernel_rfl)) rfl ?_
    exact ⟨_, _, _, _, by first | rfl | (simp [errW_none, errW_some] <;> rfl) | (simp [*, errW_none, errW_some] <;> rfl), by (with_reducible repeat (first | apply Kd.R_alloc | apply Kd.R_drewN | apply Kd.R_drew)); exact Kd.R_mono (Kd.R_far (p := ⟨gb331, 1, none⟩) (Kd.R_far (p := ⟨gb331, 0, none⟩) (Kd.R_far (p := ⟨gb330, 1, none⟩) (Kd.R_far (p := ⟨gb330, 0, none⟩) (Kd.R_types (Kd.R_types HO350.out BK330.out (by decide)) BK331.out (by decide)) (fun _ hk => hk.1.2) (.slice Ao20 t348.length co20)) (fun _ hk => hk.1.2) (.slice Ao25 t351.length co25)) (fun _ hk => hk.2) (.slice Ao31 t357.length co31)) (fun _ hk => hk.2) (.slice Ao33 t360.length co33)) (fun _ hk => ⟨hk.1.1.1.1.2, ⟨hk.1.1.1.2, hk.1.1.2⟩⟩), by (with_reducible repeat (first | apply Kd.R_alloc | apply Kd.R_drewN | apply Kd.R_drew)); exact Kd.R_mono (Kd.R_far (p := ⟨gb331, 1, none⟩) (Kd.R_far (p := ⟨gb331, 0, none⟩) (Kd.R_far (p := ⟨gb330, 1, none⟩) (Kd.R_far (p := ⟨gb330, 0, none⟩) (Kd.R_types (Kd.R_types HO353.out BK330.out (by decide)) BK331.out (by decide)) (fun _ hk => hk.1.2) (.slice Ao20 t348.length co20)) (fun _ hk => hk.1.2) (.slice Ao25 t351.length co25)) (fun _ hk => hk.2) (.slice Ao31 t357.length co31)) (fun _ hk => hk.2) (.slice Ao33 t360.length co33)) (fun _ hk => ⟨hk.1.1.1.1.2, ⟨hk.1.1.1.2, hk.1.1.2⟩⟩), by (with_reducible repeat (first | apply Kd.R_alloc | apply Kd.R_drewN | apply Kd.R_drew)); exact Kd.R_mono (Kd.R_far (p := ⟨gb331, 1, none⟩) (Kd.R_far (p := ⟨gb331, 0, none⟩) (Kd.R_far (p := ⟨gb330, 1, none⟩) (Kd.R_far (p := ⟨gb330, 0, none⟩) (Kd.R_types (Kd.R_types HO359.out BK330.out (by decide)) BK331.out (by decide)) (fun _ hk => hk.1.2) (.slice Ao20 t348.length co20)) (fun _ hk => hk.1.2) (.slice Ao25 t351.length co25)) (fun _ hk => hk.2) (.slice Ao31 t357.length co31)) (fun _ hk => hk.2) (.slice Ao33 t360.length co33)) (fun _ hk => ⟨hk.1.1.1.2, ⟨hk.1.1.2, hk.1.1.1.1.1⟩⟩), by (with_reducible repeat (first | apply Kd.R_alloc | apply Kd.R_drewN | apply Kd.R_drew)); exact Kd.R_mono (Kd.R_far (p := ⟨gb331, 1, none⟩) (Kd.R_far (p := ⟨gb331, 0, none⟩) (Kd.R_far (p := ⟨gb330, 1, none⟩) (Kd.R_far (p := ⟨gb330, 0, none⟩) (Kd.R_types (Kd.R_types HO362.out BK330.out (by decide)) BK331.out (by decide)) (fun _ hk => hk.1.2) (.slice Ao20 t348.length co20)) (fun _ hk => hk.1.2) (.slice Ao25 t351.length co25)) (fun _ hk => hk.2) (.slice Ao31 t357.length co31)) (fun _ hk => hk.2) (.slice Ao33 t360.length co33)) (fun _ hk => ⟨hk.1.1.1.2, ⟨hk.1.1.2, hk.1.1.1.1.1⟩⟩), by repeat (first | (with_reducible first | exact HB.out | apply below_alloc | apply pw_below_drewN | apply below_drew1 | refine below_set ?_ (IsS69.ge HI335.out) | refine below_set ?_ GE330.out | refine below_set ?_ GE331.out | refine below_set ?_ GE356.out) | exact HB.out)⟩
  · replace c5 := Bool.eq_false_iff.mpr c5
    subst c5
    have H1 : ((spec_l5DrawN.f k t332 t340 t341 (wrap64 (t336 - 5))).bind fun bt365 => ((spec_l3Draw.f k t332 bt365.2.2.1 bt365.2.2.2).bind fun bt374 => (some (bt365.1, bt365.2.1, bt374.1, bt374.2.1)))) = some (r1, r2, r3, r4) := by rw [if_neg (show ¬ (false = true) by decide)] at H; exact H
    clear H
    have H := H1
    clear H1
    replace H := Option.bind_eq_some_iff.mp H
    obtain ⟨⟨t365, t368, t371, t372⟩, A350, H⟩ := H
    replace H : ((spec_l3Draw.f k t332 t371 t372).bind fun bt374 => (some (t365, t368, bt374.1, bt374.2.1))) = some (r1, r2, r3, r4) := H
    have A35 := Aside0.mk A350
    clear A350
    replace H := Option.bind_eq_some_iff.mp H
    obtain ⟨⟨t374, t377, t380, t381⟩, A360, H⟩ := H
    replace H : (some (t365, t368, t374, t377)) = some (r1, r2, r3, r4) := H
    have A36 := Aside0.mk A360
    clear A360
    simp only [Option.some.injEq, Prod.mk.injEq] at H
    obtain ⟨rfl, rfl, rfl, rfl⟩ := H
    go_enter Try.func35, Try.ntmps35
    try go_wp2_with (first | ((with_reducible refine gate_dst (N := 2) rfl ?_); refine box_event ?hg (N := 2) ?hd (cs := #[.slice none 0 0, .slice none 0 0]) (t := 26) ?hr ?_; (case hd => rfl); (case hg => rfl); (case hr => first | (go_simp; done) | (go_simp; rfl)); intro gb330 hg w37 hbox hb; have BK330 := Aside0.mk (hbox); have GW330 := Aside0.mk ((by rw [hg]; exact (below_size (bU HB.out)) : w.heap.size ≤ gb330)); have GE330 := Aside0.mk ((by rw [hg]; exact (below_size (bU HB.out)) : w.heap.size ≤ gb330)); replace HB := Aside0.mk (below_step (bU HB.out) hb); clear hb hbox hg) | ((with_reducible refine gate_dst (N := 3) rfl ?_); refine box_event ?hg (N := 3) ?hd (cs := #[.slice none 0 0, .slice none 0 0]) (t := 26) ?hr ?_; (case hd => rfl); (case hg => rfl); (case hr => first | (go_simp; done) | (go_simp; rfl)); intro gb331 hg w38 hbox hb; have BK331 := Aside0.mk (hbox); have GW331 := Aside0.mk ((by rw [hg]; exact (below_size (bS1 HB.out GE330.out)) : w.heap.size ≤ gb331)); have GE331 := Aside0.mk ((by rw [hg]; exact (below_size (bS1 HB.out GE330.out)) : w.heap.size ≤ gb331)); replace HB := Aside0.mk (below_step (bS1 HB.out GE330.out) hb); have NB330_331 := Aside0.mk ((by rw [hg]; exact Nat.ne_of_lt (blk_lt (kU BK330.out)) : gb330 ≠ gb331)); have NB331_330 := Aside0.mk ((by rw [hg]; exact Nat.ne_of_gt (blk_lt (kU BK330.out)) : gb331 ≠ gb330)); replace BK330 := Aside0.mk (blk_below (kU BK330.out) hb); clear hb hbox hg) | ((with_reducible refine gate_callee (f := 58) rfl ?_); refine goesL_ (some 8) rfl rfl Try.func58 (by kernel_rfl) rfl #[.slice A0 l0.length c0] rfl (by (try simp only [List.map_toArray, List.map_cons, List.map_nil]); first | done | rfl | (simp only [List.length_drop, List.length_take]; rfl)) ?_; (with_reducible refine (spec_l1New.calls k _ _ l0 t332 t333 t334 w _ ?side1 ?side2 ?side3 A2.out).mono ?_); (case side1 => repeat (first | (with_reducible first | exact HB.out | apply below_alloc | apply pw_below_drewN | apply below_drew1 | refine below_set ?_ GE330.out | refine below_set ?_ GE331.out) | exact HB.out)); (case side2 => exact HR0.out); (case side3 => exact HC0.out); rintro e w39 ⟨g335, rfl, hi, hb, hb2⟩; refine ⟨_, rfl, ?_⟩; replace HB := Aside0.mk (hb); have HI335 := Aside0.mk (hi); have NB335_330 := Aside0.mk (IsS69.ne_blk hi (blk_below (kU BK330.out) hb2) (by decide)); have NB330_335 := Aside0.mk (Ne.symm (IsS69.ne_blk hi (blk_below (kU BK330.out) hb2) (by decide))); replace BK330 := Aside0.mk (blk_below (kU BK330.out) hb2); have NB335_331 := Aside0.mk (IsS69.ne_blk hi (blk_below (kU BK331.out) hb2) (by decide)); have NB331_335 := Aside0.mk (Ne.symm (IsS69.ne_blk hi (blk_below (kU BK331.out) hb2) (by decide))); replace BK331 := Aside0.mk (blk_below (kU BK331.out) hb2); (try clear hb); (try clear hb2); (try clear hk); (try clear hi)) | ((with_reducible refine gate_callee (f := 59) rfl ?_); refine goesL_ (some 10) rfl rfl Try.func59 (by kernel_rfl) rfl #[.pointer (some ⟨g335, 0, none⟩), .int .i64 12] rfl (by (try simp only [List.map_toArray, List.map_cons, List.map_nil]); first | done | rfl | (simp only [List.length_drop, List.length_take]; rfl)) ?_; (with_reducible refine (spec_l1Below.calls g335 t332 t333 t334 12 t336 t337 t338 w _ ?side1 ?side2 A3.out).mono ?_); (case side1 => repeat (first | (with_reducible first | exact HI335.out | apply IsS69.alloc | apply IsS69.drewN | apply IsS69.drew | apply IsS69.set_1 | apply IsS69.set_2 | refine IsS69.far ?_ NB335_330.out _ | refine IsS69.far ?_ NB335_331.out _) | exact HI335.out)); (case side2 => repeat (first | (with_reducible first | exact HB.out | apply below_alloc | apply pw_below_drewN | apply below_drew1 | refine below_set ?_ (IsS69.ge HI335.out) | refine below_set ?_ GE330.out | refine below_set ?_ GE331.out) | exact HB.out)); rintro e w40 ⟨rfl, hi, hb, hk⟩; refine ⟨_, rfl, ?_⟩; replace BK330 := Aside0.mk (KeepBut.blk hk (g' := gb330) (o := .cells #[.slice none 0 0, .slice none 0 0] 26 (0, 0)) (kU BK330.out) NB330_335.out (by simp)); replace BK331 := Aside0.mk (KeepBut.blk hk (g' := gb331) (o := .cells #[.slice none 0 0, .slice none 0 0] 26 (0, 0)) (kU BK331.out) NB331_335.out (by simp)); replace HB := Aside0.mk (hb); replace HI335 := Aside0.mk (hi); (try clear hb); (try clear hb2); (try clear hk); (try clear hi)) | ((with_reducible refine gate_callee (f := 60) rfl ?_); refine goesL_ (some 13) rfl rfl Try.func60 (by kernel_rfl) rfl #[.pointer (some ⟨g335, 0, none⟩), .int .i64 15] rfl (by (try simp only [List.map_toArray, List.map_cons, List.map_nil]); first | done | rfl | (simp only [List.length_drop, List.length_take]; rfl)) ?_; (with_reducible refine (spec_l1Once.calls g335 t332 t337 t338 15 false t340 t341 w _ ?side1 ?side2 A4.out).mono ?_); (case side1 => repeat (first | (with_reducible first | exact HI335.out | apply IsS69.alloc | apply IsS69.drewN | apply IsS69.drew | apply IsS69.set_1 | apply IsS69.set_2 | refine IsS69.far ?_ NB335_330.out _ | refine IsS69.far ?_ NB335_331.out _) | exact HI335.out)); (case side2 => repeat (first | (with_reducible first | exact HB.out | apply below_alloc | apply pw_below_drewN | apply below_drew1 | refine below_set ?_ (IsS69.ge HI335.out) | refine below_set ?_ GE330.out | refine below_set ?_ GE331.out) | exact HB.out)); rintro e w41 ⟨rfl, hi, hb, hk⟩; refine ⟨_, rfl, ?_⟩; replace BK330 := Aside0.mk (KeepBut.blk hk (g' := gb330) (o := .cells #[.slice none 0 0, .slice none 0 0] 26 (0, 0)) (kU BK330.out) NB330_335.out (by simp)); replace BK331 := Aside0.mk (KeepBut.blk hk (g' := gb331) (o := .cells #[.slice none 0 0, .slice none 0 0] 26 (0, 0)) (kU BK331.out) NB331_335.out (by simp)); replace HB := Aside0.mk (hb); replace HI335 := Aside0.mk (hi); (try clear hb); (try clear hb2); (try clear hk); (try clear hi)) | ((with_reducible refine gate_callee (f := 62) rfl ?_); refine goesL_ (some 19) rfl rfl Try.func62 (by kernel_rfl) rfl #[.pointer (some ⟨g335, 0, none⟩), .int .i64 (wrap64 (t336 - 5))] rfl (by (try simp only [List.map_toArray, List.map_cons, List.map_nil]); first | done | rfl | (simp only [List.length_drop, List.length_take]; rfl)) ?_; (with_reducible refine (spec_l5DrawN.calls k g335 t332 t340 t341 (wrap64 (t336 - 5)) t365 t368 t371 t372 w _ ?side1 ?side2 A35.out).mono ?_); (case side1 => repeat (first | (with_reducible first | exact HI335.out | apply IsS69.alloc | apply IsS69.drewN | apply IsS69.drew | apply IsS69.set_1 | apply IsS69.set_2 | refine IsS69.far ?_ NB335_330.out _ | refine IsS69.far ?_ NB335_331.out _) | exact HI335.out)); (case side2 => repeat (first | (with_reducible first | exact HB.out | apply below_alloc | apply pw_below_drewN | apply below_drew1 | refine below_set ?_ (IsS69.ge HI335.out) | refine below_set ?_ GE330.out | refine below_set ?_ GE331.out) | exact HB.out)); rintro e w42 ⟨v366, v369, rfl, ho0, ho1, hi, hb, hk⟩; refine ⟨_, rfl, ?_⟩; replace BK330 := Aside0.mk (KeepBut.blk hk (g' := gb330) (o := .cells #[.slice none 0 0, .slice none 0 0] 26 (0, 0)) (kU BK330.out) NB330_335.out (by simp)); replace BK331 := Aside0.mk (KeepBut.blk hk (g' := gb331) (o := .cells #[.slice none 0 0, .slice none 0 0] 26 (0, 0)) (kU BK331.out) NB331_335.out (by simp)); have HO367 := Aside0.mk (Kd.R_lower ho0 (below_size (by repeat (first | (with_reducible first | exact HB.out | apply below_alloc | apply pw_below_drewN | apply below_drew1 | refine below_set ?_ (IsS69.ge HI335.out) | refine below_set ?_ GE330.out | refine below_set ?_ GE331.out) | exact HB.out)))); have HO370 := Aside0.mk (Kd.R_lower ho1 (below_size (by repeat (first | (with_reducible first | exact HB.out | apply below_alloc | apply pw_below_drewN | apply below_drew1 | refine below_set ?_ (IsS69.ge HI335.out) | refine below_set ?_ GE330.out | refine below_set ?_ GE331.out) | exact HB.out)))); replace HB := Aside0.mk (hb); replace HI335 := Aside0.mk (hi); (try clear hb); (try clear hb2); (try clear hk); (try clear hi); (try clear ho0); (try clear ho1)) | ((with_reducible refine gate_dst (N := 6) rfl ?_); refine box_event ?hg (N := 6) ?hd (cs := #[.slice none 0 0, .slice none 0 0]) (t := 26) ?hr ?_; (case hd => rfl); (case hg => rfl); (case hr => first | (go_simp; done) | (go_simp; rfl)); intro gb373 hg w43 hbox hb; replace HO367 := Aside0.mk (Kd.R_below (RU HO367.out) hb); replace HO370 := Aside0.mk (Kd.R_below (RU HO370.out) hb); have BK373 := Aside0.mk (hbox); have GW373 := Aside0.mk ((by rw [hg]; exact (below_size (by repeat (first | (with_reducible first | exact HB.out | apply below_alloc | apply pw_below_drewN | apply below_drew1 | refine below_set ?_ (IsS69.ge HI335.out) | refine below_set ?_ GE330.out | refine below_set ?_ GE331.out) | exact HB.out))) : w.heap.size ≤ gb373)); have GE373 := Aside0.mk ((by rw [hg]; exact (below_size (by repeat (first | (with_reducible first | exact HB.out | apply below_alloc | apply pw_below_drewN | apply below_drew1 | refine below_set ?_ (IsS69.ge HI335.out) | refine below_set ?_ GE330.out | refine below_set ?_ GE331.out) | exact HB.out))) : w.heap.size ≤ gb373)); replace HB := Aside0.mk (below_step (by repeat (first | (with_reducible first | exact HB.out | apply below_alloc | apply pw_below_drewN | apply below_drew1 | refine below_set ?_ (IsS69.ge HI335.out) | refine below_set ?_ GE330.out | refine below_set ?_ GE331.out) | exact HB.out)) hb); have NB330_373 := Aside0.mk ((by rw [hg]; exact Nat.ne_of_lt (blk_lt (kU BK330.out)) : gb330 ≠ gb373)); have NB373_330 := Aside0.mk ((by rw [hg]; exact Nat.ne_of_gt (blk_lt (kU BK330.out)) : gb373 ≠ gb330)); replace BK330 := Aside0.mk (blk_below (kU BK330.out) hb); have NB331_373 := Aside0.mk ((by rw [hg]; exact Nat.ne_of_lt (blk_lt (kU BK331.out)) : gb331 ≠ gb373)); have NB373_331 := Aside0.mk ((by rw [hg]; exact Nat.ne_of_gt (blk_lt (kU BK331.out)) : gb373 ≠ gb331)); replace BK331 := Aside0.mk (blk_below (kU BK331.out) hb); have NB335_373 := Aside0.mk ((by rw [hg]; exact Nat.ne_of_lt (IsS69.lt (show IsS69 w _ g335 t332 t371 t372 from by repeat (first | (with_reducible first | exact HI335.out | apply IsS69.alloc | apply IsS69.drewN | apply IsS69.drew | apply IsS69.set_1 | apply IsS69.set_2 | refine IsS69.far ?_ NB335_330.out _ | refine IsS69.far ?_ NB335_331.out _) | exact HI335.out))) : g335 ≠ gb373)); have NB373_335 := Aside0.mk ((by rw [hg]; exact Nat.ne_of_gt (IsS69.lt (show IsS69 w _ g335 t332 t371 t372 from by repeat (first | (with_reducible first | exact HI335.out | apply IsS69.alloc | apply IsS69.drewN | apply IsS69.drew | apply IsS69.set_1 | apply IsS69.set_2 | refine IsS69.far ?_ NB335_330.out _ | refine IsS69.far ?_ NB335_331.out _) | exact HI335.out))) : gb373 ≠ g335)); replace HI335 := Aside0.mk (IsS69.below (by repeat (first | (with_reducible first | exact HI335.out | apply IsS69.alloc | apply IsS69.drewN | apply IsS69.drew | apply IsS69.set_1 | apply IsS69.set_2 | refine IsS69.far ?_ NB335_330.out _ | refine IsS69.far ?_ NB335_331.out _) | exact HI335.out)) hb); clear hb hbox hg; obtain ⟨Ao44, co44, eo44⟩ := Kd.R_slice HO367.out; subst eo44; have hnb45 := NB373_330.out; have hnc45 := NB330_373.out; have hnb46 := NB373_331.out; have hnc46 := NB331_373.out; have hnb47 := NB373_335.out; have hnc47 := NB335_373.out; have hcz48_0 : w43.cell? ⟨gb373, 0, none⟩ = some (.slice none 0 0) := (blk_cell BK373.out 0).trans rfl; have hcz48_1 : w43.cell? ⟨gb373, 1, none⟩ = some (.slice none 0 0) := (blk_cell BK373.out 1).trans rfl; have hfz48_0 := blk_frozen BK373.out 0; have hfz48_1 := blk_frozen BK373.out 1; obtain ⟨Ao49, co49, eo49⟩ := Kd.R_slice HO370.out; subst eo49))
    have n0_ : Aside0 (Kd.R (Kd.int .i64) 3 ((w43.setCell ⟨gb373, 0, none⟩ (.slice Ao44 t365.length co44)).setCell ⟨gb373, 1, none⟩ (.slice Ao49 t368.length co49)) w.heap.size (fun k_ => some k_ ≠ (.slice Ao49 t368.length co49 : Value).ownBlock) (.slice Ao44 t365.length co44) t365) := ⟨by (with_reducible repeat (first | apply Kd.R_alloc | apply Kd.R_drewN | apply Kd.R_drew)); exact Kd.R_mono (Kd.R_far (p := ⟨gb373, 1, none⟩) (Kd.R_far (p := ⟨gb373, 0, none⟩) (Kd.R_types HO367.out BK373.out (by decide)) (fun _ hk => hk.2) (.slice Ao44 t365.length co44)) (fun _ hk => hk.2) (.slice Ao49 t368.length co49)) (fun _ hk => hk.1)⟩
    have n1_ : Aside0 (Kd.R (Kd.int .i64) 3 ((w43.setCell ⟨gb373, 0, none⟩ (.slice Ao44 t365.length co44)).setCell ⟨gb373, 1, none⟩ (.slice Ao49 t368.length co49)) w.heap.size (fun k_ => some k_ ≠ (.slice Ao44 t365.length co44 : Value).ownBlock) (.slice Ao49 t368.length co49) t368) := ⟨by (with_reducible repeat (first | apply Kd.R_alloc | apply Kd.R_drewN | apply Kd.R_drew)); exact Kd.R_mono (Kd.R_far (p := ⟨gb373, 1, none⟩) (Kd.R_far (p := ⟨gb373, 0, none⟩) (Kd.R_types HO370.out BK373.out (by decide)) (fun _ hk => hk.2) (.slice Ao44 t365.length co44)) (fun _ hk => hk.2) (.slice Ao49 t368.length co49)) (fun _ hk => hk.1)⟩
    have n2_ : Aside0 (((w43.setCell ⟨gb373, 0, none⟩ (.slice Ao44 t365.length co44)).setCell ⟨gb373, 1, none⟩ (.slice Ao49 t368.length co49)).heap[gb330]? = some (.cells #[.slice none 0 0, .slice none 0 0] 26 (0, 0))) := ⟨by (with_reducible repeat (first | refine blk_drewN ?_ _ | refine blk_drew ?_ | refine blk_alloc ?_ _)); refine blk_far ?_ NB330_373.out _; (with_reducible repeat (first | refine blk_drewN ?_ _ | refine blk_drew ?_ | refine blk_alloc ?_ _)); refine blk_far ?_ NB330_373.out _; (with_reducible repeat (first | refine blk_drewN ?_ _ | refine blk_drew ?_ | refine blk_alloc ?_ _)); exact BK330.out⟩
    have n3_ : Aside0 (((w43.setCell ⟨gb373, 0, none⟩ (.slice Ao44 t365.length co44)).setCell ⟨gb373, 1, none⟩ (.slice Ao49 t368.length co49)).heap[gb331]? = some (.cells #[.slice none 0 0, .slice none 0 0] 26 (0, 0))) := ⟨by (with_reducible repeat (first | refine blk_drewN ?_ _ | refine blk_drew ?_ | refine blk_alloc ?_ _)); refine blk_far ?_ NB331_373.out _; (with_reducible repeat (first | refine blk_drewN ?_ _ | refine blk_drew ?_ | refine blk_alloc ?_ _)); refine blk_far ?_ NB331_373.out _; (with_reducible repeat (first | refine blk_drewN ?_ _ | refine blk_drew ?_ | refine blk_alloc ?_ _)); exact BK331.out⟩
    have n4_ : Aside0 (((w43.setCell ⟨gb373, 0, none⟩ (.slice Ao44 t365.length co44)).setCell ⟨gb373, 1, none⟩ (.slice Ao49 t368.length co49)).heap[gb373]? = some (.cells #[.slice Ao44 t365.length co44, .slice Ao49 t368.length co49] 26 (0, 0))) := ⟨by (with_reducible repeat (first | refine blk_drewN ?_ _ | refine blk_drew ?_ | refine blk_alloc ?_ _)); refine blk_put (cs := #[.slice Ao44 t365.length co44, .slice none 0 0]) ?_ 1 _ rfl; (with_reducible repeat (first | refine blk_drewN ?_ _ | refine blk_drew ?_ | refine blk_alloc ?_ _)); refine blk_put (cs := #[.slice none 0 0, .slice none 0 0]) ?_ 0 _ rfl; (with_reducible repeat (first | refine blk_drewN ?_ _ | refine blk_drew ?_ | refine blk_alloc ?_ _)); exact BK373.out⟩
    have n5_ : Aside0 (IsS69 w ((w43.setCell ⟨gb373, 0, none⟩ (.slice Ao44 t365.length co44)).setCell ⟨gb373, 1, none⟩ (.slice Ao49 t368.length co49)) g335 t332 t371 t372) := ⟨by repeat (first | (with_reducible first | exact HI335.out | apply IsS69.alloc | apply IsS69.drewN | apply IsS69.drew | apply IsS69.set_1 | apply IsS69.set_2 | refine IsS69.far ?_ NB335_330.out _ | refine IsS69.far ?_ NB335_331.out _ | refine IsS69.far ?_ NB335_373.out _) | exact HI335.out)⟩
    have n6_ : Aside0 (Below w.heap.size w ((w43.setCell ⟨gb373, 0, none⟩ (.slice Ao44 t365.length co44)).setCell ⟨gb373, 1, none⟩ (.slice Ao49 t368.length co49))) := ⟨by repeat (first | (with_reducible first | exact HB.out | apply below_alloc | apply pw_below_drewN | apply below_drew1 | refine below_set ?_ (IsS69.ge HI335.out) | refine below_set ?_ GE330.out | refine below_set ?_ GE331.out | refine below_set ?_ GE373.out) | exact HB.out)⟩
    (try clear HO367)
    (try clear HO370)
    (try clear BK330)
    (try clear BK331)
    (try clear BK373)
    (try clear HI335)
    (try clear HB)
    generalize ((w43.setCell ⟨gb373, 0, none⟩ (.slice Ao44 t365.length co44)).setCell ⟨gb373, 1, none⟩ (.slice Ao49 t368.length co49)) = w50 at n0_ n1_ n2_ n3_ n4_ n5_ n6_ ⊢
    have HO367 := n0_
    have HO370 := n1_
    have BK330 := n2_
    have BK331 := n3_
    have BK373 := n4_
    have HI335 := n5_
    have HB := n6_
    clear n0_ n1_ n2_ n3_ n4_ n5_ n6_
    replace HO367 := Aside0.mk (Kd.R_drew HO367.out)
    replace HO370 := Aside0.mk (Kd.R_drew HO370.out)
    replace BK330 := Aside0.mk (blk_drew BK330.out)
    replace BK331 := Aside0.mk (blk_drew BK331.out)
    replace BK373 := Aside0.mk (blk_drew BK373.out)
    replace HI335 := Aside0.mk (IsS69.drew HI335.out)
    replace HB := Aside0.mk (below_drew1 HB.out)
    refine start_ (n := 5) (S := fun w' => w'.cell? ⟨gb373, 0, none⟩ = some (.slice Ao44 t365.length co44) ∧ w'.cell? ⟨gb373, 1, none⟩ = some (.slice Ao49 t368.length co49)) (ds := []) #[false, false, false, false, false] (by kernel_rfl) rfl rfl ⟨(blk_cell BK373.out 0).trans rfl, (blk_cell BK373.out 1).trans rfl⟩ (fun hHeld => ?_)
    generalize w50.drew = w51 at HO367 HO370 BK330 BK331 BK373 HI335 HB hHeld ⊢
    refine pure_ (i := 1) (N := some 21) (v := ?_) (a' := ?_) #[false, true, false, false, false] rfl rfl (by kernel_rfl) (fun _ _ _ h => h) (Or.inl ⟨by rfl, ?_⟩) ?_ ?_
    rotate_left
    · intro w'
      go_simp
      with_reducible rfl
    rotate_left
    · simp only [Act.put, List.setIfInBounds_toArray, List.set_cons_zero, List.set_cons_succ, i64_w, i32_w]
      rfl
    refine take_ (i := 0) (N := some 20) (v := ?_) (a' := ?_) #[true, true, false, false, false] rfl rfl (by kernel_rfl) (fun _ _ _ h => h) (Or.inl ⟨by rfl, ?_⟩) hHeld ?_ ?_
    rotate_left
    · rintro w' ⟨s0, s1⟩
      go_simp
      with_reducible rfl
    rotate_left
    · simp only [Act.put, List.setIfInBounds_toArray, List.set_cons_zero, List.set_cons_succ, i64_w, i32_w]
      rfl
    refine one_ (i := 2) (N := some 22) #[true, true, true, false, false] rfl rfl (by kernel_rfl) (by decide) (fun K hK => ?_)
    refine goes_ Try.func63 (by kernel_rfl) rfl #[.pointer (some ⟨g335, 0, none⟩)] (by rfl) rfl rfl (by (try simp only [List.map_toArray, List.map_cons, List.map_nil]); first | done | rfl | (simp only [List.length_drop, List.length_take]; rfl)) ?_
    with_reducible refine (spec_l3Draw.calls k g335 t332 t371 t372 t374 t377 t380 t381 w _ ?side1 ?side2 A36.out).mono ?_
    (case side1 => repeat (first | (with_reducible first | exact HI335.out | apply IsS69.alloc | apply IsS69.drewN | apply IsS69.drew | apply IsS69.set_1 | apply IsS69.set_2 | refine IsS69.far ?_ NB335_330.out _ | refine IsS69.far ?_ NB335_331.out _ | refine IsS69.far ?_ NB335_373.out _) | exact HI335.out))
    (case side2 => repeat (first | (with_reducible first | exact HB.out | apply below_alloc | apply pw_below_drewN | apply below_drew1 | refine below_set ?_ (IsS69.ge HI335.out) | refine below_set ?_ GE330.out | refine below_set ?_ GE331.out | refine below_set ?_ GE373.out) | exact HB.out))
    rintro e w52 ⟨v375, v378, rfl, ho0, ho1, hi, hb, hk⟩
    refine ⟨_, rfl, ?_⟩
    replace BK330 := Aside0.mk (KeepBut.blk hk (g' := gb330) (o := .cells #[.slice none 0 0, .slice none 0 0] 26 (0, 0)) (kU BK330.out) NB330_335.out (by simp))
    replace BK331 := Aside0.mk (KeepBut.blk hk (g' := gb331) (o := .cells #[.slice none 0 0, .slice none 0 0] 26 (0, 0)) (kU BK331.out) NB331_335.out (by simp))
    replace BK373 := Aside0.mk (KeepBut.blk hk (g' := gb373) (o := .cells #[.slice Ao44 t365.length co44, .slice Ao49 t368.length co49] 26 (0, 0)) (kU BK373.out) NB373_335.out (by simp))
    have HO376 := Aside0.mk (Kd.R_lower (Kd.R_new' (Kd.R_new' ho0 (Kd.R_lt (RU HO367.out))) (Kd.R_lt (RU HO370.out))) (below_size (by repeat (first | (with_reducible first | exact HB.out | apply below_alloc | apply pw_below_drewN | apply below_drew1 | refine below_set ?_ (IsS69.ge HI335.out) | refine below_set ?_ GE330.out | refine below_set ?_ GE331.out | refine below_set ?_ GE373.out) | exact HB.out))))
    have HO379 := Aside0.mk (Kd.R_lower (Kd.R_new' (Kd.R_new' ho1 (Kd.R_lt (RU HO367.out))) (Kd.R_lt (RU HO370.out))) (below_size (by repeat (first | (with_reducible first | exact HB.out | apply below_alloc | apply pw_below_drewN | apply below_drew1 | refine below_set ?_ (IsS69.ge HI335.out) | refine below_set ?_ GE330.out | refine below_set ?_ GE331.out | refine below_set ?_ GE373.out) | exact HB.out))))
    replace HO367 := Aside0.mk (Kd.R_mono (Kd.R_told (Kd.R_told (Kd.R_oldK (IsS69.apart (show IsS69 w _ g335 t332 t371 t372 from by repeat (first | (with_reducible first | exact HI335.out | apply IsS69.alloc | apply IsS69.drewN | apply IsS69.drew | apply IsS69.set_1 | apply IsS69.set_2 | refine IsS69.far ?_ NB335_330.out _ | refine IsS69.far ?_ NB335_331.out _ | refine IsS69.far ?_ NB335_373.out _) | exact HI335.out)) (RU HO367.out) (by decide)) hk) (Kd.R_base ho0)) (Kd.R_base ho1)) (fun _ h_ => h_.1))
    replace HO370 := Aside0.mk (Kd.R_mono (Kd.R_told (Kd.R_told (Kd.R_oldK (IsS69.apart (show IsS69 w _ g335 t332 t371 t372 from by repeat (first | (with_reducible first | exact HI335.out | apply IsS69.alloc | apply IsS69.drewN | apply IsS69.drew | apply IsS69.set_1 | apply IsS69.set_2 | refine IsS69.far ?_ NB335_330.out _ | refine IsS69.far ?_ NB335_331.out _ | refine IsS69.far ?_ NB335_373.out _) | exact HI335.out)) (RU HO370.out) (by decide)) hk) (Kd.R_base ho0)) (Kd.R_base ho1)) (fun _ h_ => h_.1))
    replace HB := Aside0.mk (hb)
    replace HI335 := Aside0.mk (hi)
    (try clear hb)
    (try clear hb2)
    (try clear hk)
    (try clear hi)
    (try clear ho0)
    (try clear ho1)
    obtain ⟨Ao55, co55, eo55⟩ := Kd.R_slice HO376.out
    (first | subst eo55 | (injection eo55 with f1_ f2_ f3_; have f4_ := f1_.symm; have f5_ := f3_.symm; clear f1_ f2_ f3_; subst f4_; subst f5_))
    obtain ⟨Ao57, co57, eo57⟩ := Kd.R_slice HO379.out
    (first | subst eo57 | (injection eo57 with f1_ f2_ f3_; have f4_ := f1_.symm; have f5_ := f3_.symm; clear f1_ f2_ f3_; subst f4_; subst f5_))
    refine hK.out _ _ ⟨(blk_cell BK373.out 0).trans rfl, (blk_cell BK373.out 1).trans rfl⟩ (fun hHeld => ?_)
    clear hK K
    refine norm_ (a' := ?_) ?_ ?_
    rotate_left
    · show Act.put _ (some 22) _ = _
      simp only [Act.put, List.setIfInBounds_toArray, List.set_cons_zero, List.set_cons_succ, i64_w, i32_w]
      rfl
    refine one_ (i := 3) (N := none) #[true, true, true, true, false] rfl rfl (by kernel_rfl) (by decide) (fun K hK => ?_)
    have hs53 : w52.cell? ⟨gb330, 0, none⟩ = some (.slice none 0 0) := (blk_cell BK330.out 0).trans rfl
    have hfs53 := blk_frozen BK330.out 0
    have hns53_1 := NB331_330.out
    have hns53_2 := NB373_330.out
    have hms53_1 := NB330_331.out
    have hms53_2 := NB330_373.out
    have hs54 : w52.cell? ⟨gb330, 1, none⟩ = some (.slice none 0 0) := (blk_cell BK330.out 1).trans rfl
    have hfs54 := blk_frozen BK330.out 1
    have hns54_1 := NB331_330.out
    have hns54_2 := NB373_330.out
    have hms54_1 := NB330_331.out
    have hms54_2 := NB330_373.out
    refine skip_ (w1 := ?_) (by rfl) rfl ?_ ?_
    rotate_left
    · go_simp
      rfl
    refine hK.out _ _ ⟨((cell_far (p := ⟨gb330, _, none⟩) NB373_330.out _).trans (((cell_far (p := ⟨gb330, _, none⟩) NB373_330.out _).trans (hHeld.1)))), ((cell_far (p := ⟨gb330, _, none⟩) NB373_330.out _).trans (((cell_far (p := ⟨gb330, _, none⟩) NB373_330.out _).trans (hHeld.2))))⟩ (fun hHeld => ?_)
    clear hK K
    refine one_ (i := 4) (N := none) #[true, true, true, true, true] rfl rfl (by kernel_rfl) (by decide) (fun K hK => ?_)
    have hs56 : w52.cell? ⟨gb331, 0, none⟩ = some (.slice none 0 0) := (blk_cell BK331.out 0).trans rfl
    have hfs56 := blk_frozen BK331.out 0
    have hns56_0 := NB330_331.out
    have hns56_2 := NB373_331.out
    have hms56_0 := NB331_330.out
    have hms56_2 := NB331_373.out
    have hs58 : w52.cell? ⟨gb331, 1, none⟩ = some (.slice none 0 0) := (blk_cell BK331.out 1).trans rfl
    have hfs58 := blk_frozen BK331.out 1
    have hns58_0 := NB330_331.out
    have hns58_2 := NB373_331.out
    have hms58_0 := NB331_330.out
    have hms58_2 := NB331_373.out
    refine skip_ (w1 := ?_) (by rfl) rfl ?_ ?_
    rotate_left
    · go_simp
      rfl
    refine hK.out _ _ ⟨((cell_far (p := ⟨gb331, _, none⟩) NB373_331.out _).trans (((cell_far (p := ⟨gb331, _, none⟩) NB373_331.out _).trans (hHeld.1)))), ((cell_far (p := ⟨gb331, _, none⟩) NB373_331.out _).trans (((cell_far (p := ⟨gb331, _, none⟩) NB373_331.out _).trans (hHeld.2))))⟩ (fun hHeld => ?_)
    clear hK K
    refine done_ (by kernel_rfl) ?_
    try go_wp2
    refine bodyPost_ret (results_cc rfl _ _ gb330 gb331 26 26 #[.slice Ao44 t365.length co44, .slice Ao49 t368.length co49] #[.slice Ao55 t374.length co55, .slice Ao57 t377.length co57] (0, 0) (0, 0) _ _ rfl (by (with_reducible repeat (first | refine blk_drewN ?_ _ | refine blk_drew ?_ | refine blk_alloc ?_ _)); refine blk_far ?_ NB330_331.out _; (with_reducible repeat (first | refine blk_drewN ?_ _ | refine blk_drew ?_ | refine blk_alloc ?_ _)); refine blk_far ?_ NB330_331.out _; (with_reducible repeat (first | refine blk_drewN ?_ _ | refine blk_drew ?_ | refine blk_alloc ?_ _)); refine blk_put (cs := #[.slice Ao44 t365.length co44, .slice none 0 0]) ?_ 1 _ rfl; (with_reducible repeat (first | refine blk_drewN ?_ _ | refine blk_drew ?_ | refine blk_alloc ?_ _)); refine blk_put (cs := #[.slice none 0 0, .slice none 0 0]) ?_ 0 _ rfl; (with_reducible repeat (first | refine blk_drewN ?_ _ | refine blk_drew ?_ | refine blk_alloc ?_ _)); exact BK330.out) Try.underlying26 rfl (by kernel_rfl) rfl (by (with_reducible repeat (first | refine blk_drewN ?_ _ | refine blk_drew ?_ | refine blk_alloc ?_ _)); refine blk_put (cs := #[.slice Ao55 t374.length co55, .slice none 0 0]) ?_ 1 _ rfl; (with_reducible repeat (first | refine blk_drewN ?_ _ | refine blk_drew ?_ | refine blk_alloc ?_ _)); refine blk_put (cs := #[.slice none 0 0, .slice none 0 0]) ?_ 0 _ rfl; (with_reducible repeat (first | refine blk_drewN ?_ _ | refine blk_drew ?_ | refine blk_alloc ?_ _)); refine blk_far ?_ NB331_330.out _; (with_reducible repeat (first | refine blk_drewN ?_ _ | refine blk_drew ?_ | refine blk_alloc ?_ _)); refine blk_far ?_ NB331_330.out _; (with_reducible repeat (first | refine blk_drewN ?_ _ | refine blk_drew ?_ | refine blk_alloc ?_ _)); exact BK331.out) Try.underlying26 rfl (by kernel_rfl)) rfl ?_
    exact ⟨_, _, _, _, by first | rfl | (simp [errW_none, errW_some] <;> rfl) | (simp [*, errW_none, errW_some] <;> rfl), by (with_reducible repeat (first | apply Kd.R_alloc | apply Kd.R_drewN | apply Kd.R_drew)); exact Kd.R_mono (Kd.R_far (p := ⟨gb331, 1, none⟩) (Kd.R_far (p := ⟨gb331, 0, none⟩) (Kd.R_far (p := ⟨gb330, 1, none⟩) (Kd.R_far (p := ⟨gb330, 0, none⟩) (Kd.R_types (Kd.R_types HO367.out BK330.out (by decide)) BK331.out (by decide)) (fun _ hk => hk.1.2) (.slice Ao44 t365.length co44)) (fun _ hk => hk.1.2) (.slice Ao49 t368.length co49)) (fun _ hk => hk.2) (.slice Ao55 t374.length co55)) (fun _ hk => hk.2) (.slice Ao57 t377.length co57)) (fun _ hk => ⟨hk.1.1.1.1, ⟨hk.1.1.1.2, hk.1.1.2⟩⟩), by (with_reducible repeat (first | apply Kd.R_alloc | apply Kd.R_drewN | apply Kd.R_drew)); exact Kd.R_mono (Kd.R_far (p := ⟨gb331, 1, none⟩) (Kd.R_far (p := ⟨gb331, 0, none⟩) (Kd.R_far (p := ⟨gb330, 1, none⟩) (Kd.R_far (p := ⟨gb330, 0, none⟩) (Kd.R_types (Kd.R_types HO370.out BK330.out (by decide)) BK331.out (by decide)) (fun _ hk => hk.1.2) (.slice Ao44 t365.length co44)) (fun _ hk => hk.1.2) (.slice Ao49 t368.length co49)) (fun _ hk => hk.2) (.slice Ao55 t374.length co55)) (fun _ hk => hk.2) (.slice Ao57 t377.length co57)) (fun _ hk => ⟨hk.1.1.1.1, ⟨hk.1.1.1.2, hk.1.1.2⟩⟩), by (with_reducible repeat (first | apply Kd.R_alloc | apply Kd.R_drewN | apply Kd.R_drew)); exact Kd.R_mono (Kd.R_far (p := ⟨gb331, 1, none⟩) (Kd.R_far (p := ⟨gb331, 0, none⟩) (Kd.R_far (p := ⟨gb330, 1, none⟩) (Kd.R_far (p := ⟨gb330, 0, none⟩) (Kd.R_types (Kd.R_types HO376.out BK330.out (by decide)) BK331.out (by decide)) (fun _ hk => hk.1.2) (.slice Ao44 t365.length co44)) (fun _ hk => hk.1.2) (.slice Ao49 t368.length co49)) (fun _ hk => hk.2) (.slice Ao55 t374.length co55)) (fun _ hk => hk.2) (.slice Ao57 t377.length co57)) (fun _ hk => ⟨hk.1.1.1.2, ⟨hk.1.1.2, hk.1.1.1.1⟩⟩), by (with_reducible repeat (first | apply Kd.R_alloc | apply Kd.R_drewN | apply Kd.R_drew)); exact Kd.R_mono (Kd.R_far (p := ⟨gb331, 1, none⟩) (Kd.R_far (p := ⟨gb331, 0, none⟩) (Kd.R_far (p := ⟨gb330, 1, none⟩) (Kd.R_far (p := ⟨gb330, 0, none⟩) (Kd.R_types (Kd.R_types HO379.out BK330.out (by decide)) BK331.out (by decide)) (fun _ hk => hk.1.2) (.slice Ao44 t365.length co44)) (fun _ hk => hk.1.2) (.slice Ao49 t368.length co49)) (fun _ hk => hk.2) (.slice Ao55 t374.length co55)) (fun _ hk => hk.2) (.slice Ao57 t377.length co57)) (fun _ hk => ⟨hk.1.1.1.2, ⟨hk.1.1.2, hk.1.1.1.1⟩⟩), by repeat (first | (with_reducible first | exact HB.out | apply below_alloc | apply pw_below_drewN | apply below_drew1 | refine below_set ?_ (IsS69.ge HI335.out) | refine below_set ?_ GE330.out | refine below_set ?_ GE331.out | refine below_set ?_ GE373.out) | exact HB.out)⟩

/-! ### spec_DrawRotate: function 13 -/
def spec_DrawRotate.f (k : Nat) (l0 : List Int) : Option (List Int × List Int × List Int × List Int) := (spec_l5DrawBy.f k l0).bind fun bt384 => (some (bt384.1, bt384.2.1, bt384.2.2.1, bt384.2.2.2))
theorem spec_DrawRotate.mono : ∀ a0 k, LeO (spec_DrawRotate.f k a0) (spec_DrawRotate.f (k + 1) a0) := by
  intro a0 k
  unfold spec_DrawRotate.f
  repeat' first
      | (with_reducible exact spec_l5DrawBy.mono _ _)
      | (with_reducible exact LeO.refl _)
      | (with_reducible exact LeO.none _)
      | (with_reducible refine LeO.ite ?_ ?_)
      | (with_reducible refine LeO.bind ?_ (fun _ => ?_))
      | exact spec_l5DrawBy.mono _ _
      | exact LeO.none _
      | refine LeO.ite ?_ ?_
      | refine LeO.bind ?_ (fun _ => ?_)
set_option maxHeartbeats 8000000 in
set_option maxRecDepth 100000 in
theorem spec_DrawRotate.calls (k : Nat) (A0 : Option Addr) (c0 : Nat) (l0 : List Int) (r1 : List Int) (r2 : List Int) (r3 : List Int) (r4 : List Int) (w : World) (hr0 : Kd.C (Kd.int .u8) w A0 l0.length l0) (hc0 : l0.length ≤ c0) (h : spec_DrawRotate.f k l0 = some (r1, r2, r3, r4)) :
    Calls Try.prog 13 #[.slice A0 l0.length c0] w fun e w' => ∃ v0_ v1_ v2_ v3_ : Value, e = .returned (.tuple #[.agg #[v0_, v1_], .agg #[v2_, v3_]]) ∧ Kd.R (Kd.int .i64) 3 w' w.heap.size (fun k_ => some k_ ≠ (v1_ : Value).ownBlock ∧ some k_ ≠ (v2_ : Value).ownBlock ∧ some k_ ≠ (v3_ : Value).ownBlock) v0_ r1 ∧ Kd.R (Kd.int .i64) 3 w' w.heap.size (fun k_ => some k_ ≠ (v0_ : Value).ownBlock ∧ some k_ ≠ (v2_ : Value).ownBlock ∧ some k_ ≠ (v3_ : Value).ownBlock) v1_ r2 ∧ Kd.R (Kd.int .i64) 3 w' w.heap.size (fun k_ => some k_ ≠ (v0_ : Value).ownBlock ∧ some k_ ≠ (v1_ : Value).ownBlock ∧ some k_ ≠ (v3_ : Value).ownBlock) v2_ r3 ∧ Kd.R (Kd.int .i64) 3 w' w.heap.size (fun k_ => some k_ ≠ (v0_ : Value).ownBlock ∧ some k_ ≠ (v1_ : Value).ownBlock ∧ some k_ ≠ (v2_ : Value).ownBlock) v3_ r4 ∧ Below w.heap.size w w' := by
  have hu26 := Try.underlying26
  have HR0 := Aside0.mk hr0
  have HC0 := Aside0.mk hc0
  clear hr0 hc0
  have HB := Aside0.mk (Below.refl w.heap.size w)
  have H : ((spec_l5DrawBy.f k l0).bind fun bt384 => (some (bt384.1, bt384.2.1, bt384.2.2.1, bt384.2.2.2))) = some (r1, r2, r3, r4) := h
  clear h
  replace H := Option.bind_eq_some_iff.mp H
  obtain ⟨⟨t384, t387, t390, t393⟩, A20, H⟩ := H
  replace H : (some (t384, t387, t390, t393)) = some (r1, r2, r3, r4) := H
  have A2 := Aside0.mk A20
  clear A20
  simp only [Option.some.injEq, Prod.mk.injEq] at H
  obtain ⟨rfl, rfl, rfl, rfl⟩ := H
  go_enter Try.func13, Try.ntmps13
  try go_wp2_with (first | ((with_reducible refine gate_dst (N := 2) rfl ?_); refine box_event ?hg (N := 2) ?hd (cs := #[.slice none 0 0, .slice none 0 0]) (t := 26) ?hr ?_; (case hd => rfl); (case hg => rfl); (case hr => first | (go_simp; done) | (go_simp; rfl)); intro gb382 hg w3 hbox hb; have BK382 := Aside0.mk (hbox); have GW382 := Aside0.mk ((by rw [hg]; exact (below_size (bU HB.out)) : w.heap.size ≤ gb382)); have GE382 := Aside0.mk ((by rw [hg]; exact (below_size (bU HB.out)) : w.heap.size ≤ gb382)); replace HB := Aside0.mk (below_step (bU HB.out) hb); clear hb hbox hg) | ((with_reducible refine gate_dst (N := 3) rfl ?_); refine box_event ?hg (N := 3) ?hd (cs := #[.slice none 0 0, .slice none 0 0]) (t := 26) ?hr ?_; (case hd => rfl); (case hg => rfl); (case hr => first | (go_simp; done) | (go_simp; rfl)); intro gb383 hg w4 hbox hb; have BK383 := Aside0.mk (hbox); have GW383 := Aside0.mk ((by rw [hg]; exact (below_size (bS1 HB.out GE382.out)) : w.heap.size ≤ gb383)); have GE383 := Aside0.mk ((by rw [hg]; exact (below_size (bS1 HB.out GE382.out)) : w.heap.size ≤ gb383)); replace HB := Aside0.mk (below_step (bS1 HB.out GE382.out) hb); have NB382_383 := Aside0.mk ((by rw [hg]; exact Nat.ne_of_lt (blk_lt (kU BK382.out)) : gb382 ≠ gb383)); have NB383_382 := Aside0.mk ((by rw [hg]; exact Nat.ne_of_gt (blk_lt (kU BK382.out)) : gb383 ≠ gb382)); replace BK382 := Aside0.mk (blk_below (kU BK382.out) hb); clear hb hbox hg) | ((with_reducible refine gate_callee (f := 35) rfl ?_); refine goesL_ (some 8) rfl rfl Try.func35 (by kernel_rfl) rfl #[.slice A0 l0.length c0] rfl (by (try simp only [List.map_toArray, List.map_cons, List.map_nil]); first | done | rfl | (simp only [List.length_drop, List.length_take]; rfl)) ?_; (with_reducible refine (spec_l5DrawBy.calls k _ _ l0 t384 t387 t390 t393 _ ?side1 ?side2 A2.out).mono ?_); (case side1 => exact cU (Kd.C_below HR0.out HB.out)); (case side2 => exact HC0.out); rintro e w5 ⟨v385, v388, v391, v394, rfl, ho0, ho1, ho2, ho3, hb⟩; refine ⟨_, rfl, ?_⟩; have HO386 := Aside0.mk (Kd.R_lower ho0 (below_size (bS2 HB.out GE382.out GE383.out))); have HO389 := Aside0.mk (Kd.R_lower ho1 (below_size (bS2 HB.out GE382.out GE383.out))); have HO392 := Aside0.mk (Kd.R_lower ho2 (below_size (bS2 HB.out GE382.out GE383.out))); have HO395 := Aside0.mk (Kd.R_lower ho3 (below_size (bS2 HB.out GE382.out GE383.out))); replace BK382 := Aside0.mk (blk_below (kU BK382.out) hb); replace BK383 := Aside0.mk (blk_below (kU BK383.out) hb); replace HB := Aside0.mk (below_step (bS2 HB.out GE382.out GE383.out) hb); (try clear hb); (try clear hb2); (try clear hk); (try clear hi); (try clear ho0); (try clear ho1); (try clear ho2); (try clear ho3)) | ((with_reducible refine gate_dst (N := 4) rfl ?_); refine box_event ?hg (N := 4) ?hd (cs := #[.slice none 0 0, .slice none 0 0]) (t := 26) ?hr ?_; (case hd => rfl); (case hg => rfl); (case hr => first | (go_simp; done) | (go_simp; rfl)); intro gb396 hg w6 hbox hb; replace HO386 := Aside0.mk (Kd.R_below (RU HO386.out) hb); replace HO389 := Aside0.mk (Kd.R_below (RU HO389.out) hb); replace HO392 := Aside0.mk (Kd.R_below (RU HO392.out) hb); replace HO395 := Aside0.mk (Kd.R_below (RU HO395.out) hb); have BK396 := Aside0.mk (hbox); have GW396 := Aside0.mk ((by rw [hg]; exact (below_size (bS2 HB.out GE382.out GE383.out)) : w.heap.size ≤ gb396)); have GE396 := Aside0.mk ((by rw [hg]; exact (below_size (bS2 HB.out GE382.out GE383.out)) : w.heap.size ≤ gb396)); replace HB := Aside0.mk (below_step (bS2 HB.out GE382.out GE383.out) hb); have NB382_396 := Aside0.mk ((by rw [hg]; exact Nat.ne_of_lt (blk_lt (kU BK382.out)) : gb382 ≠ gb396)); have NB396_382 := Aside0.mk ((by rw [hg]; exact Nat.ne_of_gt (blk_lt (kU BK382.out)) : gb396 ≠ gb382)); replace BK382 := Aside0.mk (blk_below (kU BK382.out) hb); have NB383_396 := Aside0.mk ((by rw [hg]; exact Nat.ne_of_lt (blk_lt (kU BK383.out)) : gb383 ≠ gb396)); have NB396_383 := Aside0.mk ((by rw [hg]; exact Nat.ne_of_gt (blk_lt (kU BK383.out)) : gb396 ≠ gb383)); replace BK383 := Aside0.mk (blk_below (kU BK383.out) hb); clear hb hbox hg) | ((with_reducible refine gate_dst (N := 5) rfl ?_); refine box_event ?hg (N := 5) ?hd (cs := #[.slice none 0 0, .slice none 0 0]) (t := 26) ?hr ?_; (case hd => rfl); (case hg => rfl); (case hr => first | (go_simp; done) | (go_simp; rfl)); intro gb397 hg w7 hbox hb; replace HO386 := Aside0.mk (Kd.R_below (RU HO386.out) hb); replace HO389 := Aside0.mk (Kd.R_below (RU HO389.out) hb); replace HO392 := Aside0.mk (Kd.R_below (RU HO392.out) hb); replace HO395 := Aside0.mk (Kd.R_below (RU HO395.out) hb); have BK397 := Aside0.mk (hbox); have GW397 := Aside0.mk ((by rw [hg]; exact (below_size (bS3 HB.out GE382.out GE383.out GE396.out)) : w.heap.size ≤ gb397)); have GE397 := Aside0.mk ((by rw [hg]; exact (below_size (bS3 HB.out GE382.out GE383.out GE396.out)) : w.heap.size ≤ gb397)); replace HB := Aside0.mk (below_step (bS3 HB.out GE382.out GE383.out GE396.out) hb); have NB382_397 := Aside0.mk ((by rw [hg]; exact Nat.ne_of_lt (blk_lt (kU BK382.out)) : gb382 ≠ gb397)); have NB397_382 := Aside0.mk ((by rw [hg]; exact Nat.ne_of_gt (blk_lt (kU BK382.out)) : gb397 ≠ gb382)); replace BK382 := Aside0.mk (blk_below (kU BK382.out) hb); have NB383_397 := Aside0.mk ((by rw [hg]; exact Nat.ne_of_lt (blk_lt (kU BK383.out)) : gb383 ≠ gb397)); have NB397_383 := Aside0.mk ((by rw [hg]; exact Nat.ne_of_gt (blk_lt (kU BK383.out)) : gb397 ≠ gb383)); replace BK383 := Aside0.mk (blk_below (kU BK383.out) hb); have NB396_397 := Aside0.mk ((by rw [hg]; exact Nat.ne_of_lt (blk_lt (kU BK396.out)) : gb396 ≠ gb397)); have NB397_396 := Aside0.mk ((by rw [hg]; exact Nat.ne_of_gt (blk_lt (kU BK396.out)) : gb397 ≠ gb396)); replace BK396 := Aside0.mk (blk_below (kU BK396.out) hb); clear hb hbox hg; obtain ⟨Ao8, co8, eo8⟩ := Kd.R_slice HO386.out; subst eo8; have hnb9 := NB396_382.out; have hnc9 := NB382_396.out; have hnb10 := NB396_383.out; have hnc10 := NB383_396.out; have hnb11 := NB396_397.out; have hnc11 := NB397_396.out; have hcz12_0 : w7.cell? ⟨gb396, 0, none⟩ = some (.slice none 0 0) := (blk_cell BK396.out 0).trans rfl; have hcz12_1 : w7.cell? ⟨gb396, 1, none⟩ = some (.slice none 0 0) := (blk_cell BK396.out 1).trans rfl; have hfz12_0 := blk_frozen BK396.out 0; have hfz12_1 := blk_frozen BK396.out 1; obtain ⟨Ao13, co13, eo13⟩ := Kd.R_slice HO389.out; subst eo13; obtain ⟨Ao14, co14, eo14⟩ := Kd.R_slice HO392.out; subst eo14; have hnb15 := NB397_382.out; have hnc15 := NB382_397.out; have hnb16 := NB397_383.out; have hnc16 := NB383_397.out; have hcz17_0 : w7.cell? ⟨gb397, 0, none⟩ = some (.slice none 0 0) := (blk_cell BK397.out 0).trans rfl; have hcz17_1 : w7.cell? ⟨gb397, 1, none⟩ = some (.slice none 0 0) := (blk_cell BK397.out 1).trans rfl; have hfz17_0 := blk_frozen BK397.out 0; have hfz17_1 := blk_frozen BK397.out 1; obtain ⟨Ao18, co18, eo18⟩ := Kd.R_slice HO395.out; subst eo18))
  have n0_ : Aside0 (Kd.R (Kd.int .i64) 3 ((((w7.setCell ⟨gb396, 0, none⟩ (.slice Ao8 t384.length co8)).setCell ⟨gb396, 1, none⟩ (.slice Ao13 t387.length co13)).setCell ⟨gb397, 0, none⟩ (.slice Ao14 t390.length co14)).setCell ⟨gb397, 1, none⟩ (.slice Ao18 t393.length co18)) w.heap.size (fun k_ => some k_ ≠ (.slice Ao13 t387.length co13 : Value).ownBlock ∧ some k_ ≠ (.slice Ao14 t390.length co14 : Value).ownBlock ∧ some k_ ≠ (.slice Ao18 t393.length co18 : Value).ownBlock) (.slice Ao8 t384.length co8) t384) := ⟨by (with_reducible repeat (first | apply Kd.R_alloc | apply Kd.R_drewN | apply Kd.R_drew)); exact Kd.R_mono (Kd.R_far (p := ⟨gb397, 1, none⟩) (Kd.R_far (p := ⟨gb397, 0, none⟩) (Kd.R_far (p := ⟨gb396, 1, none⟩) (Kd.R_far (p := ⟨gb396, 0, none⟩) (Kd.R_types (Kd.R_types HO386.out BK396.out (by decide)) BK397.out (by decide)) (fun _ hk => hk.1.2) (.slice Ao8 t384.length co8)) (fun _ hk => hk.1.2) (.slice Ao13 t387.length co13)) (fun _ hk => hk.2) (.slice Ao14 t390.length co14)) (fun _ hk => hk.2) (.slice Ao18 t393.length co18)) (fun _ hk => ⟨hk.1.1.1, ⟨hk.1.1.2.1, hk.1.1.2.2⟩⟩)⟩
  have n1_ : Aside0 (Kd.R (Kd.int .i64) 3 ((((w7.setCell ⟨gb396, 0, none⟩ (.slice Ao8 t384.length co8)).setCell ⟨gb396, 1, none⟩ (.slice Ao13 t387.length co13)).setCell ⟨gb397, 0, none⟩ (.slice Ao14 t390.length co14)).setCell ⟨gb397, 1, none⟩ (.slice Ao18 t393.length co18)) w.heap.size (fun k_ => some k_ ≠ (.slice Ao8 t384.length co8 : Value).ownBlock ∧ some k_ ≠ (.slice Ao14 t390.length co14 : Value).ownBlock ∧ some k_ ≠ (.slice Ao18 t393.length co18 : Value).ownBlock) (.slice Ao13 t387.length co13) t387) := ⟨by (with_reducible repeat (first | apply Kd.R_alloc | apply Kd.R_drewN | apply Kd.R_drew)); exact Kd.R_mono (Kd.R_far (p := ⟨gb397, 1, none⟩) (Kd.R_far (p := ⟨gb397, 0, none⟩) (Kd.R_far (p := ⟨gb396, 1, none⟩) (Kd.R_far (p := ⟨gb396, 0, none⟩) (Kd.R_types (Kd.R_types HO389.out BK396.out (by decide)) BK397.out (by decide)) (fun _ hk => hk.1.2) (.slice Ao8 t384.length co8)) (fun _ hk => hk.1.2) (.slice Ao13 t387.length co13)) (fun _ hk => hk.2) (.slice Ao14 t390.length co14)) (fun _ hk => hk.2) (.slice Ao18 t393.length co18)) (fun _ hk => ⟨hk.1.1.1, ⟨hk.1.1.2.1, hk.1.1.2.2⟩⟩)⟩
  have n2_ : Aside0 (Kd.R (Kd.int .i64) 3 ((((w7.setCell ⟨gb396, 0, none⟩ (.slice Ao8 t384.length co8)).setCell ⟨gb396, 1, none⟩ (.slice Ao13 t387.length co13)).setCell ⟨gb397, 0, none⟩ (.slice Ao14 t390.length co14)).setCell ⟨gb397, 1, none⟩ (.slice Ao18 t393.length co18)) w.heap.size (fun k_ => some k_ ≠ (.slice Ao8 t384.length co8 : Value).ownBlock ∧ some k_ ≠ (.slice Ao13 t387.length co13 : Value).ownBlock ∧ some k_ ≠ (.slice Ao18 t393.length co18 : Value).ownBlock) (.slice Ao14 t390.length co14) t390) := ⟨by (with_reducible repeat (first | apply Kd.R_alloc | apply Kd.R_drewN | apply Kd.R_drew)); exact Kd.R_mono (Kd.R_far (p := ⟨gb397, 1, none⟩) (Kd.R_far (p := ⟨gb397, 0, none⟩) (Kd.R_far (p := ⟨gb396, 1, none⟩) (Kd.R_far (p := ⟨gb396, 0, none⟩) (Kd.R_types (Kd.R_types HO392.out BK396.out (by decide)) BK397.out (by decide)) (fun _ hk => hk.1.2) (.slice Ao8 t384.length co8)) (fun _ hk => hk.1.2) (.slice Ao13 t387.length co13)) (fun _ hk => hk.2) (.slice Ao14 t390.length co14)) (fun _ hk => hk.2) (.slice Ao18 t393.length co18)) (fun _ hk => ⟨hk.1.1.1, ⟨hk.1.1.2.1, hk.1.1.2.2⟩⟩)⟩
  have n3_ : Aside0 (Kd.R (Kd.int .i64) 3 ((((w7.setCell ⟨gb396, 0, none⟩ (.slice Ao8 t384.length co8)).setCell ⟨gb396, 1, none⟩ (.slice Ao13 t387.length co13)).setCell ⟨gb397, 0, none⟩ (.slice Ao14 t390.length co14)).setCell ⟨gb397, 1, none⟩ (.slice Ao18 t393.length co18)) w.heap.size (fun k_ => some k_ ≠ (.slice Ao8 t384.length co8 : Value).ownBlock ∧ some k_ ≠ (.slice Ao13 t387.length co13 : Value).ownBlock ∧ some k_ ≠ (.slice Ao14 t390.length co14 : Value).ownBlock) (.slice Ao18 t393.length co18) t393) := ⟨by (with_reducible repeat (first | apply Kd.R_alloc | apply Kd.R_drewN | apply Kd.R_drew)); exact Kd.R_mono (Kd.R_far (p := ⟨gb397, 1, none⟩) (Kd.R_far (p := ⟨gb397, 0, none⟩) (Kd.R_far (p := ⟨gb396, 1, none⟩) (Kd.R_far (p := ⟨gb396, 0, none⟩) (Kd.R_types (Kd.R_types HO395.out BK396.out (by decide)) BK397.out (by decide)) (fun _ hk => hk.1.2) (.slice Ao8 t384.length co8)) (fun _ hk => hk.1.2) (.slice Ao13 t387.length co13)) (fun _ hk => hk.2) (.slice Ao14 t390.length co14)) (fun _ hk => hk.2) (.slice Ao18 t393.length co18)) (fun _ hk => ⟨hk.1.1.1, ⟨hk.1.1.2.1, hk.1.1.2.2⟩⟩)⟩
  have n4_ : Aside0 (((((w7.setCell ⟨gb396, 0, none⟩ (.slice Ao8 t384.length co8)).setCell ⟨gb396, 1, none⟩ (.slice Ao13 t387.length co13)).setCell ⟨gb397, 0, none⟩ (.slice Ao14 t390.length co14)).setCell ⟨gb397, 1, none⟩ (.slice Ao18 t393.length co18)).heap[gb382]? = some (.cells #[.slice none 0 0, .slice none 0 0] 26 (0, 0))) := ⟨by (with_reducible repeat (first | refine blk_drewN ?_ _ | refine blk_drew ?_ | refine blk_alloc ?_ _)); refine blk_far ?_ NB382_397.out _; (with_reducible repeat (first | refine blk_drewN ?_ _ | refine blk_drew ?_ | refine blk_alloc ?_ _)); refine blk_far ?_ NB382_397.out _; (with_reducible repeat (first | refine blk_drewN ?_ _ | refine blk_drew ?_ | refine blk_alloc ?_ _)); refine blk_far ?_ NB382_396.out _; (with_reducible repeat (first | refine blk_drewN ?_ _ | refine blk_drew ?_ | refine blk_alloc ?_ _)); refine blk_far ?_ NB382_396.out _; (with_reducible repeat (first | refine blk_drewN ?_ _ | refine blk_drew ?_ | refine blk_alloc ?_ _)); exact BK382.out⟩
  have n5_ : Aside0 (((((w7.setCell ⟨gb396, 0, none⟩ (.slice Ao8 t384.length co8)).setCell ⟨gb396, 1, none⟩ (.slice Ao13 t387.length co13)).setCell ⟨gb397, 0, none⟩ (.slice Ao14 t390.length co14)).setCell ⟨gb397, 1, none⟩ (.slice Ao18 t393.length co18)).heap[gb383]? = some (.cells #[.slice none 0 0, .slice none 0 0] 26 (0, 0))) := ⟨by (with_reducible repeat (first | refine blk_drewN ?_ _ | refine blk_drew ?_ | refine blk_alloc ?_ _)); refine blk_far ?_ NB383_397.out _; (with_reducible repeat (first | refine blk_drewN ?_ _ | refine blk_drew ?_ | refine blk_alloc ?_ _)); refine blk_far ?_ NB383_397.out _; (with_reducible repeat (first | refine blk_drewN ?_ _ | refine blk_drew ?_ | refine blk_alloc ?_ _)); refine blk_far ?_ NB383_396.out _; (with_reducible repeat (first | refine blk_drewN ?_ _ | refine blk_drew ?_ | refine blk_alloc ?_ _)); refine blk_far ?_ NB383_396.out _; (with_reducible repeat (first | refine blk_drewN ?_ _ | refine blk_drew ?_ | refine blk_alloc ?_ _)); exact BK383.out⟩
  have n6_ : Aside0 (((((w7.setCell ⟨gb396, 0, none⟩ (.slice Ao8 t384.length co8)).setCell ⟨gb396, 1, none⟩ (.slice Ao13 t387.length co13)).setCell ⟨gb397, 0, none⟩ (.slice Ao14 t390.length co14)).setCell ⟨gb397, 1, none⟩ (.slice Ao18 t393.length co18)).heap[gb396]? = some (.cells #[.slice Ao8 t384.length co8, .slice Ao13 t387.length co13] 26 (0, 0))) := ⟨by (with_reducible repeat (first | refine blk_drewN ?_ _ | refine blk_drew ?_ | refine blk_alloc ?_ _)); refine blk_far ?_ NB396_397.out _; (with_reducible repeat (first | refine blk_drewN ?_ _ | refine blk_drew ?_ | refine blk_alloc ?_ _)); refine blk_far ?_ NB396_397.out _; (with_reducible repeat (first | refine blk_drewN ?_ _ | refine blk_drew ?_ | refine blk_alloc ?_ _)); refine blk_put (cs := #[.slice Ao8 t384.length co8, .slice none 0 0]) ?_ 1 _ rfl; (with_reducible repeat (first | refine blk_drewN ?_ _ | refine blk_drew ?_ | refine blk_alloc ?_ _)); refine blk_put (cs := #[.slice none 0 0, .slice none 0 0]) ?_ 0 _ rfl; (with_reducible repeat (first | refine blk_drewN ?_ _ | refine blk_drew ?_ | refine blk_alloc ?_ _)); exact BK396.out⟩
  have n7_ : Aside0 (((((w7.setCell ⟨gb396, 0, none⟩ (.slice Ao8 t384.length co8)).setCell ⟨gb396, 1, none⟩ (.slice Ao13 t387.length co13)).setCell ⟨gb397, 0, none⟩ (.slice Ao14 t390.length co14)).setCell ⟨gb397, 1, none⟩ (.slice Ao18 t393.length co18)).heap[gb397]? = some (.cells #[.slice Ao14 t390.length co14, .slice Ao18 t393.length co18] 26 (0, 0))) := ⟨by (with_reducible repeat (first | refine blk_drewN ?_ _ | refine blk_drew ?_ | refine blk_alloc ?_ _)); refine blk_put (cs := #[.slice Ao14 t390.length co14, .slice none 0 0]) ?_ 1 _ rfl; (with_reducible repeat (first | refine blk_drewN ?_ _ | refine blk_drew ?_ | refine blk_alloc ?_ _)); refine blk_put (cs := #[.slice none 0 0, .slice none 0 0]) ?_ 0 _ rfl; (with_reducible repeat (first | refine blk_drewN ?_ _ | refine blk_drew ?_ | refine blk_alloc ?_ _)); refine blk_far ?_ NB397_396.out _; (with_reducible repeat (first | refine blk_drewN ?_ _ | refine blk_drew ?_ | refine blk_alloc ?_ _)); refine blk_far ?_ NB397_396.out _; (with_reducible repeat (first | refine blk_drewN ?_ _ | refine blk_drew ?_ | refine blk_alloc ?_ _)); exact BK397.out⟩
  have n8_ : Aside0 (Below w.heap.size w ((((w7.setCell ⟨gb396, 0, none⟩ (.slice Ao8 t384.length co8)).setCell ⟨gb396, 1, none⟩ (.slice Ao13 t387.length co13)).setCell ⟨gb397, 0, none⟩ (.slice Ao14 t390.length co14)).setCell ⟨gb397, 1, none⟩ (.slice Ao18 t393.length co18))) := ⟨by repeat (first | (with_reducible first | exact HB.out | apply below_alloc | apply pw_below_drewN | apply below_drew1 | refine below_set ?_ GE382.out | refine below_set ?_ GE383.out | refine below_set ?_ GE396.out | refine below_set ?_ GE397.out) | exact HB.out)⟩
  (try clear HO386)
  (try clear HO389)
  (try clear HO392)
  (try clear HO395)
  (try clear BK382)
  (try clear BK383)
  (try clear BK396)
  (try clear BK397)
  (try clear HB)
  generalize ((((w7.setCell ⟨gb396, 0, none⟩ (.slice Ao8 t384.length co8)).setCell ⟨gb396, 1, none⟩ (.slice Ao13 t387.length co13)).setCell ⟨gb397, 0, none⟩ (.slice Ao14 t390.length co14)).setCell ⟨gb397, 1, none⟩ (.slice Ao18 t393.length co18)) = w19 at n0_ n1_ n2_ n3_ n4_ n5_ n6_ n7_ n8_ ⊢
  have HO386 := n0_
  have HO389 := n1_
  have HO392 := n2_
  have HO395 := n3_
  have BK382 := n4_
  have BK383 := n5_
  have BK396 := n6_
  have BK397 := n7_
  have HB := n8_
  clear n0_ n1_ n2_ n3_ n4_ n5_ n6_ n7_ n8_
  replace HO386 := Aside0.mk (Kd.R_drew HO386.out)
  replace HO389 := Aside0.mk (Kd.R_drew HO389.out)
  replace HO392 := Aside0.mk (Kd.R_drew HO392.out)
  replace HO395 := Aside0.mk (Kd.R_drew HO395.out)
  replace BK382 := Aside0.mk (blk_drew BK382.out)
  replace BK383 := Aside0.mk (blk_drew BK383.out)
  replace BK396 := Aside0.mk (blk_drew BK396.out)
  replace BK397 := Aside0.mk (blk_drew BK397.out)
  replace HB := Aside0.mk (below_drew1 HB.out)
  refine start_ (n := 4) (S := fun w' => w'.cell? ⟨gb396, 0, none⟩ = some (.slice Ao8 t384.length co8) ∧ w'.cell? ⟨gb396, 1, none⟩ = some (.slice Ao13 t387.length co13) ∧ w'.cell? ⟨gb397, 0, none⟩ = some (.slice Ao14 t390.length co14) ∧ w'.cell? ⟨gb397, 1, none⟩ = some (.slice Ao18 t393.length co18)) (ds := []) #[false, false, false, false] (by kernel_rfl) rfl rfl ⟨(blk_cell BK396.out 0).trans rfl, (blk_cell BK396.out 1).trans rfl, (blk_cell BK397.out 0).trans rfl, (blk_cell BK397.out 1).trans rfl⟩ (fun hHeld => ?_)
  generalize w19.drew = w20 at HO386 HO389 HO392 HO395 BK382 BK383 BK396 BK397 HB hHeld ⊢
  refine take_ (i := 0) (N := some 11) (v := ?_) (a' := ?_) #[true, false, false, false] rfl rfl (by kernel_rfl) (fun _ _ _ h => h) (Or.inl ⟨by rfl, ?_⟩) hHeld ?_ ?_
  rotate_left
  · rintro w' ⟨s0, s1, s2, s3⟩
    go_simp
    with_reducible rfl
  rotate_left
  · simp only [Act.put, List.setIfInBounds_toArray, List.set_cons_zero, List.set_cons_succ, i64_w, i32_w]
    rfl
  refine take_ (i := 1) (N := some 12) (v := ?_) (a' := ?_) #[true, true, false, false] rfl rfl (by kernel_rfl) (fun _ _ _ h => h) (Or.inl ⟨by rfl, ?_⟩) hHeld ?_ ?_
  rotate_left
  · rintro w' ⟨s0, s1, s2, s3⟩
    go_simp
    with_reducible rfl
  rotate_left
  · simp only [Act.put, List.setIfInBounds_toArray, List.set_cons_zero, List.set_cons_succ, i64_w, i32_w]
    rfl
  refine one_ (i := 2) (N := none) #[true, true, true, false] rfl rfl (by kernel_rfl) (by decide) (fun K hK => ?_)
  have hs21 : w20.cell? ⟨gb382, 0, none⟩ = some (.slice none 0 0) := (blk_cell BK382.out 0).trans rfl
  have hfs21 := blk_frozen BK382.out 0
  have hns21_1 := NB383_382.out
  have hns21_2 := NB396_382.out
  have hns21_3 := NB397_382.out
  have hms21_1 := NB382_383.out
  have hms21_2 := NB382_396.out
  have hms21_3 := NB382_397.out
  have hs22 : w20.cell? ⟨gb382, 1, none⟩ = some (.slice none 0 0) := (blk_cell BK382.out 1).trans rfl
  have hfs22 := blk_frozen BK382.out 1
  have hns22_1 := NB383_382.out
  have hns22_2 := NB396_382.out
  have hns22_3 := NB397_382.out
  have hms22_1 := NB382_383.out
  have hms22_2 := NB382_396.out
  have hms22_3 := NB382_397.out
  refine skip_ (w1 := ?_) (by rfl) rfl ?_ ?_
  rotate_left
  · go_simp
    rfl
  refine hK.out _ _ ⟨((cell_far (p := ⟨gb382, _, none⟩) NB396_382.out _).trans (((cell_far (p := ⟨gb382, _, none⟩) NB396_382.out _).trans (hHeld.1)))), ((cell_far (p := ⟨gb382, _, none⟩) NB396_382.out _).trans (((cell_far (p := ⟨gb382, _, none⟩) NB396_382.out _).trans (hHeld.2.1)))), ((cell_far (p := ⟨gb382, _, none⟩) NB397_382.out _).trans (((cell_far (p := ⟨gb382, _, none⟩) NB397_382.out _).trans (hHeld.2.2.1)))), ((cell_far (p := ⟨gb382, _, none⟩) NB397_382.out _).trans (((cell_far (p := ⟨gb382, _, none⟩) NB397_382.out _).trans (hHeld.2.2.2))))⟩ (fun hHeld => ?_)
  clear hK K
  refine one_ (i := 3) (N := none) #[true, true, true, true] rfl rfl (by kernel_rfl) (by decide) (fun K hK => ?_)
  have hs23 : w20.cell? ⟨gb383, 0, none⟩ = some (.slice none 0 0) := (blk_cell BK383.out 0).trans rfl
  have hfs23 := blk_frozen BK383.out 0
  have hns23_0 := NB382_383.out
  have hns23_2 := NB396_383.out
  have hns23_3 := NB397_383.out
  have hms23_0 := NB383_382.out
  have hms23_2 := NB383_396.out
  have hms23_3 := NB383_397.out
  have hs24 : w20.cell? ⟨gb383, 1, none⟩ = some (.slice none 0 0) := (blk_cell BK383.out 1).trans rfl
  have hfs24 := blk_frozen BK383.out 1
  have hns24_0 := NB382_383.out
  have hns24_2 := NB396_383.out
  have hns24_3 := NB397_383.out
  have hms24_0 := NB383_382.out
  have hms24_2 := NB383_396.out
  have hms24_3 := NB383_397.out
  refine skip_ (w1 := ?_) (by rfl) rfl ?_ ?_
  rotate_left
  · go_simp
    rfl
  refine hK.out _ _ ⟨((cell_far (p := ⟨gb383, _, none⟩) NB396_383.out _).trans (((cell_far (p := ⟨gb383, _, none⟩) NB396_383.out _).trans (hHeld.1)))), ((cell_far (p := ⟨gb383, _, none⟩) NB396_383.out _).trans (((cell_far (p := ⟨gb383, _, none⟩) NB396_383.out _).trans (hHeld.2.1)))), ((cell_far (p := ⟨gb383, _, none⟩) NB397_383.out _).trans (((cell_far (p := ⟨gb383, _, none⟩) NB397_383.out _).trans (hHeld.2.2.1)))), ((cell_far (p := ⟨gb383, _, none⟩) NB397_383.out _).trans (((cell_far (p := ⟨gb383, _, none⟩) NB397_383.out _).trans (hHeld.2.2.2))))⟩ (fun hHeld => ?_)
  clear hK K
  refine done_ (by kernel_rfl) ?_
  try go_wp2
  refine bodyPost_ret (results_cc rfl _ _ gb382 gb383 26 26 #[.slice Ao8 t384.length co8, .slice Ao13 t387.length co13] #[.slice Ao14 t390.length co14, .slice Ao18 t393.length co18] (0, 0) (0, 0) _ _ rfl (by (with_reducible repeat (first | refine blk_drewN ?_ _ | refine blk_drew ?_ | refine blk_alloc ?_ _)); refine blk_far ?_ NB382_383.out _; (with_reducible repeat (first | refine blk_drewN ?_ _ | refine blk_drew ?_ | refine blk_alloc ?_ _)); refine blk_far ?_ NB382_383.out _; (with_reducible repeat (first | refine blk_drewN ?_ _ | refine blk_drew ?_ | refine blk_alloc ?_ _)); refine blk_put (cs := #[.slice Ao8 t384.length co8, .slice none 0 0]) ?_ 1 _ rfl; (with_reducible repeat (first | refine blk_drewN ?_ _ | refine blk_drew ?_ | refine blk_alloc ?_ _)); refine blk_put (cs := #[.slice none 0 0, .slice none 0 0]) ?_ 0 _ rfl; (with_reducible repeat (first | refine blk_drewN ?_ _ | refine blk_drew ?_ | refine blk_alloc ?_ _)); exact BK382.out) Try.underlying26 rfl (by kernel_rfl) rfl (by (with_reducible repeat (first | refine blk_drewN ?_ _ | refine blk_drew ?_ | refine blk_alloc ?_ _)); refine blk_put (cs := #[.slice Ao14 t390.length co14, .slice none 0 0]) ?_ 1 _ rfl; (with_reducible repeat (first | refine blk_drewN ?_ _ | refine blk_drew ?_ | refine blk_alloc ?_ _)); refine blk_put (cs := #[.slice none 0 0, .slice none 0 0]) ?_ 0 _ rfl; (with_reducible repeat (first | refine blk_drewN ?_ _ | refine blk_drew ?_ | refine blk_alloc ?_ _)); refine blk_far ?_ NB383_382.out _; (with_reducible repeat (first | refine blk_drewN ?_ _ | refine blk_drew ?_ | refine blk_alloc ?_ _)); refine blk_far ?_ NB383_382.out _; (with_reducible repeat (first | refine blk_drewN ?_ _ | refine blk_drew ?_ | refine blk_alloc ?_ _)); exact BK383.out) Try.underlying26 rfl (by kernel_rfl)) rfl ?_
  exact ⟨_, _, _, _, by first | rfl | (simp [errW_none, errW_some] <;> rfl) | (simp [*, errW_none, errW_some] <;> rfl), by (with_reducible repeat (first | apply Kd.R_alloc | apply Kd.R_drewN | apply Kd.R_drew)); exact Kd.R_mono (Kd.R_far (p := ⟨gb383, 1, none⟩) (Kd.R_far (p := ⟨gb383, 0, none⟩) (Kd.R_far (p := ⟨gb382, 1, none⟩) (Kd.R_far (p := ⟨gb382, 0, none⟩) (Kd.R_types (Kd.R_types HO386.out BK382.out (by decide)) BK383.out (by decide)) (fun _ hk => hk.1.2) (.slice Ao8 t384.length co8)) (fun _ hk => hk.1.2) (.slice Ao13 t387.length co13)) (fun _ hk => hk.2) (.slice Ao14 t390.length co14)) (fun _ hk => hk.2) (.slice Ao18 t393.length co18)) (fun _ hk => ⟨hk.1.1.1, ⟨hk.1.1.2.1, hk.1.1.2.2⟩⟩), by (with_reducible repeat (first | apply Kd.R_alloc | apply Kd.R_drewN | apply Kd.R_drew)); exact Kd.R_mono (Kd.R_far (p := ⟨gb383, 1, none⟩) (Kd.R_far (p := ⟨gb383, 0, none⟩) (Kd.R_far (p := ⟨gb382, 1, none⟩) (Kd.R_far (p := ⟨gb382, 0, none⟩) (Kd.R_types (Kd.R_types HO389.out BK382.out (by decide)) BK383.out (by decide)) (fun _ hk => hk.1.2) (.slice Ao8 t384.length co8)) (fun _ hk => hk.1.2) (.slice Ao13 t387.length co13)) (fun _ hk => hk.2) (.slice Ao14 t390.length co14)) (fun _ hk => hk.2) (.slice Ao18 t393.length co18)) (fun _ hk => ⟨hk.1.1.1, ⟨hk.1.1.2.1, hk.1.1.2.2⟩⟩), by (with_reducible repeat (first | apply Kd.R_alloc | apply Kd.R_drewN | apply Kd.R_drew)); exact Kd.R_mono (Kd.R_far (p := ⟨gb383, 1, none⟩) (Kd.R_far (p := ⟨gb383, 0, none⟩) (Kd.R_far (p := ⟨gb382, 1, none⟩) (Kd.R_far (p := ⟨gb382, 0, none⟩) (Kd.R_types (Kd.R_types HO392.out BK382.out (by decide)) BK383.out (by decide)) (fun _ hk => hk.1.2) (.slice Ao8 t384.length co8)) (fun _ hk => hk.1.2) (.slice Ao13 t387.length co13)) (fun _ hk => hk.2) (.slice Ao14 t390.length co14)) (fun _ hk => hk.2) (.slice Ao18 t393.length co18)) (fun _ hk => ⟨hk.1.1.1, ⟨hk.1.1.2.1, hk.1.1.2.2⟩⟩), by (with_reducible repeat (first | apply Kd.R_alloc | apply Kd.R_drewN | apply Kd.R_drew)); exact Kd.R_mono (Kd.R_far (p := ⟨gb383, 1, none⟩) (Kd.R_far (p := ⟨gb383, 0, none⟩) (Kd.R_far (p := ⟨gb382, 1, none⟩) (Kd.R_far (p := ⟨gb382, 0, none⟩) (Kd.R_types (Kd.R_types HO395.out BK382.out (by decide)) BK383.out (by decide)) (fun _ hk => hk.1.2) (.slice Ao8 t384.length co8)) (fun _ hk => hk.1.2) (.slice Ao13 t387.length co13)) (fun _ hk => hk.2) (.slice Ao14 t390.length co14)) (fun _ hk => hk.2) (.slice Ao18 t393.length co18)) (fun _ hk => ⟨hk.1.1.1, ⟨hk.1.1.2.1, hk.1.1.2.2⟩⟩), by repeat (first | (with_reducible first | exact HB.out | apply below_alloc | apply pw_below_drewN | apply below_drew1 | refine below_set ?_ GE382.out | refine below_set ?_ GE383.out | refine below_set ?_ GE396.out | refine below_set ?_ GE397.out) | exact HB.out)⟩

/-! ### impl_within: function 53 -/
def impl_within.f (a0 : Int) (a1 : Int) (a2 : Int) : Option (Bool) := if a0 ≥ a1 then (some (decide (a0 ≤ a2))) else (some false)
set_option maxHeartbeats 8000000 in
set_option maxRecDepth 100000 in
theorem impl_within.calls (a0 : Int) (a1 : Int) (a2 : Int) (r : Bool) (w : World) (h : impl_within.f a0 a1 a2 = some r) :
    Calls Try.prog 53 #[.int .i64 a0, .int .i64 a1, .int .i64 a2] w fun e w' => e = .returned (.bool r) ∧ Drawn0 w w' := by
  have H : (if a0 ≥ a1 then (some (decide (a0 ≤ a2))) else (some false)) = some r := h
  clear h
  by_cases c4 : a0 ≥ a1
  · rw [if_pos c4] at H
    have c4b0 : decide (a1 ≤ a0) = true := decide_eq_true c4
    clear c4
    obtain rfl := Option.some.inj H
    go_enter Try.func53, Try.ntmps53
    go_wp2
    go_ret
    exact ⟨by first | rfl | (simp; done) | (simp [*]; done), by repeat (first | exact Drawn0.refl _ | apply Drawn0.step)⟩
  · rw [if_neg c4] at H
    have c4b0 : decide (a1 ≤ a0) = false := decide_eq_false c4
    clear c4
    obtain rfl := Option.some.inj H
    go_enter Try.func53, Try.ntmps53
    go_wp2
    go_ret
    exact ⟨by first | rfl | (simp; done) | (simp [*]; done), by repeat (first | exact Drawn0.refl _ | apply Drawn0.step)⟩

/-! ### impl_SizeOf: function 29 -/
def impl_SizeOf.l0 : Nat → Int → List Int → Int → Int → Option (Int)
  | 0, _, _, _, _ => none
  | k + 1, x3, x9, x10, x11 => if x11 < x10 then (if 0 ≤ x11 then (if x11 < (x9.length : Int) then ((impl_within.f (rd x9 x11) 0 300).bind fun t399 => (if t399 = true then (impl_SizeOf.l0 k (wrap64 (x3 * (rd x9 x11))) x9 x10 (wrap64 (x11 + 1))) else (some (-1)))) else (none)) else (none)) else (if x3 > 300 then (some (-1)) else (some x3))
def impl_SizeOf.f (k : Nat) (l0 : List Int) : Option (Int) := if (l0.length : Int) > 3 then (some (-1)) else (impl_SizeOf.l0 k 1 l0 (l0.length : Int) 0)
theorem impl_SizeOf.mono_l : ∀ k, (∀ y0 y1 y2 y3, LeO (impl_SizeOf.l0 k y0 y1 y2 y3) (impl_SizeOf.l0 (k + 1) y0 y1 y2 y3))
  | 0 => fun _ _ _ _ r h => by simp [impl_SizeOf.l0] at h
  | k + 1 => by
    have ih0 := impl_SizeOf.mono_l k
    · intro y0 y1 y2 y3
      unfold impl_SizeOf.l0
      repeat' first
      | (with_reducible exact ih0 _ _ _ _)
      | (with_reducible exact LeO.refl _)
      | (with_reducible exact LeO.none _)
      | (with_reducible refine LeO.ite ?_ ?_)
      | (with_reducible refine LeO.bind ?_ (fun _ => ?_))
      | exact ih0 _ _ _ _
      | exact LeO.none _
      | refine LeO.ite ?_ ?_
      | refine LeO.bind ?_ (fun _ => ?_)
theorem impl_SizeOf.mono : ∀ a0 k, LeO (impl_SizeOf.f k a0) (impl_SizeOf.f (k + 1) a0) := by
  intro a0 k
  have ih0 := impl_SizeOf.mono_l k
  unfold impl_SizeOf.f
  repeat' first
      | (with_reducible exact ih0 _ _ _ _)
      | (with_reducible exact LeO.refl _)
      | (with_reducible exact LeO.none _)
      | (with_reducible refine LeO.ite ?_ ?_)
      | (with_reducible refine LeO.bind ?_ (fun _ => ?_))
      | exact ih0 _ _ _ _
      | exact LeO.none _
      | refine LeO.ite ?_ ?_
      | refine LeO.bind ?_ (fun _ => ?_)
set_option maxHeartbeats 8000000 in
set_option maxRecDepth 100000 in
theorem impl_SizeOf.calls (k : Nat) (A0 : Option Addr) (c0 : Nat) (l0 : List Int) (r : Int) (w : World) (hr0 : Kd.C (Kd.int .i64) w A0 l0.length l0) (hc0 : l0.length ≤ c0) (h : impl_SizeOf.f k l0 = some r) :
    Calls Try.prog 29 #[.slice A0 l0.length c0] w fun e w' => e = .returned (.int .i64 r) ∧ Drawn0 w w' := by
  have HR0 := Aside0.mk hr0
  have HC0 := Aside0.mk hc0
  clear hr0 hc0
  have H : (if (l0.length : Int) > 3 then (some (-1)) else (impl_SizeOf.l0 k 1 l0 (l0.length : Int) 0)) = some r := h
  clear h
  by_cases c2 : (l0.length : Int) > 3
  · rw [if_pos c2] at H
    have c2b0 : decide (3 < (l0.length : Int)) = true := decide_eq_true c2
    have c2b1 : decide (3 < l0.length) = true := decide_eq_true (by omega)
    clear c2
    obtain rfl := Option.some.inj H
    go_enter Try.func29, Try.ntmps29
    go_wp2
    go_ret
    exact ⟨by first | rfl | (simp; done) | (simp [*]; done), by repeat (first | exact Drawn0.refl _ | apply Drawn0.step)⟩
  · rw [if_neg c2] at H
    have c2b0 : decide (3 < (l0.length : Int)) = false := decide_eq_false c2
    have c2b1 : decide (3 < l0.length) = false := decide_eq_false (by omega)
    clear c2
    have H' := Aside0.mk H
    clear H
    go_enter Try.func29, Try.ntmps29
    go_wp2
    go_loopg [3, 11] k (fun kq v3 v11 w' => ∃ (x3_1 : Int) (x11_1 : Int), v3 = .int .i64 x3_1 ∧ v11 = .int .i64 x11_1 ∧ Aside0 (impl_SizeOf.l0 kq x3_1 l0 (l0.length : Int) x11_1 = some r) ∧ Aside0 (kq ≤ k) ∧ Drawn0 w w')
    case atStart => exact ⟨(1), (0), (by first | rfl | (simp; done) | (simp [*]; done)), (by first | rfl | (simp; done) | (simp [*]; done)), H', ⟨Nat.le_refl _⟩, by repeat (first | exact Drawn0.refl _ | apply Drawn0.step)⟩
    case round =>
      clear H'
      try clear c2
      try clear c2b0
      try clear c2b1
      try clear p2
      obtain ⟨x3_1, x11_1, rfl, rfl, HA, HK1, ⟨m1, rfl⟩⟩ := hrel
      cases gk with
      | zero => exact absurd HA.out (by simp [impl_SizeOf.l0])
      | succ k1 =>
        have H := HA.out
        clear HA
        simp only [impl_SizeOf.l0] at H
        by_cases c3 : x11_1 < (l0.length : Int)
        · rw [if_pos c3] at H
          have c3b0 : decide (x11_1 < (l0.length : Int)) = true := decide_eq_true c3
          clear c3
          by_cases c4 : 0 ≤ x11_1
          · rw [if_pos c4] at H
            have c4b0 : decide (0 ≤ x11_1) = true := decide_eq_true c4
            clear c4
            by_cases c5 : x11_1 < (l0.length : Int)
            · rw [if_pos c5] at H
              have c5b0 : decide (x11_1 < (l0.length : Int)) = true := decide_eq_true c5
              clear c5
              replace H := Option.bind_eq_some_iff.mp H
              obtain ⟨t399, A60, H⟩ := H
              replace H : (if t399 = true then (impl_SizeOf.l0 k1 (wrap64 (x3_1 * (rd l0 x11_1))) l0 (l0.length : Int) (wrap64 (x11_1 + 1))) else (some (-1))) = some r := H
              have A6 := Aside0.mk A60
              clear A60
              by_cases c7 : t399 = true
              · subst c7
                have H1 : (impl_SizeOf.l0 k1 (wrap64 (x3_1 * (rd l0 x11_1))) l0 (l0.length : Int) (wrap64 (x11_1 + 1))) = some r := by rw [if_pos rfl] at H; exact H
                clear H
                have H := H1
                clear H1
                have H' := Aside0.mk H
                clear H
                have p398 : 0 ≤ (x11_1 : Int) := of_decide_eq_true (by first | (with_reducible assumption) | assumption)
                have q398 : x11_1 < (l0.length : Int) := of_decide_eq_true (by first | (with_reducible assumption) | assumption)
                obtain ⟨ad398, e398, hx398_0⟩ := Kd.at_int HR0.out x11_1 p398 q398
                cases e398
                replace p398 := eq_true p398
                replace q398 := eq_true q398
                go_wp2_with (first | ((with_reducible refine gate_callee (f := 53) rfl ?_); refine goesL_ (some 16) rfl rfl Try.func53 (by kernel_rfl) rfl #[.int .i64 (rd l0 x11_1), .int .i64 0, .int .i64 300] rfl (by (try simp only [List.map_toArray, List.map_cons, List.map_nil]); first | done | rfl | (simp only [List.length_drop, List.length_take]; rfl)) ?_; (with_reducible refine (impl_within.calls (rd l0 x11_1) 0 300 true _ A6.out).mono ?_); rintro e w' ⟨rfl, ⟨nd, rfl⟩⟩; refine ⟨_, rfl, ?_⟩))
                go_roundg k1
                case measure => have := HK1.out; omega
                case rel => exact ⟨(wrap64 (x3_1 * (rd l0 x11_1))), (wrap64 (x11_1 + 1)), (by first | rfl | (simp; done) | (simp [*]; done)), (by first | rfl | (simp; done) | (simp [*]; done)), H', ⟨by have := HK1.out; omega⟩, by repeat (first | exact Drawn0.refl _ | apply Drawn0.step)⟩
              · replace c7 := Bool.eq_false_iff.mpr c7
                subst c7
                have H1 : (some (-1)) = some r := by rw [if_neg (show ¬ (false = true) by decide)] at H; exact H
                clear H
                have H := H1
                clear H1
                obtain rfl := Option.some.inj H
                have p398 : 0 ≤ (x11_1 : Int) := of_decide_eq_true (by first | (with_reducible assumption) | assumption)
                have q398 : x11_1 < (l0.length : Int) := of_decide_eq_true (by first | (with_reducible assumption) | assumption)
                obtain ⟨ad398, e398, hx398_0⟩ := Kd.at_int HR0.out x11_1 p398 q398
                cases e398
                replace p398 := eq_true p398
                replace q398 := eq_true q398
                go_wp2_with (first | ((with_reducible refine gate_callee (f := 53) rfl ?_); refine goesL_ (some 16) rfl rfl Try.func53 (by kernel_rfl) rfl #[.int .i64 (rd l0 x11_1), .int .i64 0, .int .i64 300] rfl (by (try simp only [List.map_toArray, List.map_cons, List.map_nil]); first | done | rfl | (simp only [List.length_drop, List.length_take]; rfl)) ?_; (with_reducible refine (impl_within.calls (rd l0 x11_1) 0 300 false _ A6.out).mono ?_); rintro e w' ⟨rfl, ⟨nd, rfl⟩⟩; refine ⟨_, rfl, ?_⟩))
                go_ret
                exact ⟨by first | rfl | (simp; done) | (simp [*]; done), by repeat (first | exact Drawn0.refl _ | apply Drawn0.step)⟩
            · rw [if_neg c5] at H
              exact absurd H (by simp)
          · rw [if_neg c4] at H
            exact absurd H (by simp)
        · rw [if_neg c3] at H
          have c3b0 : decide (x11_1 < (l0.length : Int)) = false := decide_eq_false c3
          clear c3
          by_cases c8 : x3_1 > 300
          · rw [if_pos c8] at H
            have c8b0 : decide (300 < x3_1) = true := decide_eq_true c8
            clear c8
            obtain rfl := Option.some.inj H
            go_wp2
            go_ret
            exact ⟨by first | rfl | (simp; done) | (simp [*]; done), by repeat (first | exact Drawn0.refl _ | apply Drawn0.step)⟩
          · rw [if_neg c8] at H
            have c8b0 : decide (300 < x3_1) = false := decide_eq_false c8
            clear c8
            obtain rfl := Option.some.inj H
            go_wp2
            go_ret
            exact ⟨by first | rfl | (simp; done) | (simp [*]; done), by repeat (first | exact Drawn0.refl _ | apply Drawn0.step)⟩

end Go.Proofs.Ytjkbndfaemjjiaa.PFnRotated
