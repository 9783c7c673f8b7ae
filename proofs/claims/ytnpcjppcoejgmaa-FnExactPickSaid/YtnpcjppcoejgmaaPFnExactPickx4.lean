/- The walk of what a law reaches, for the law's row: written by a program of this session; it has no condition of its own. -/
import Derived.Test.YtnpcjppcoejgmaaPFnExactPickx0
import Derived.Test.YtnpcjppcoejgmaaQ
import Derived.Test.YtnpcjppcoejgmaaPFnExactPickx1
import Derived.Test.YtnpcjppcoejgmaaPFnExactPickx2
import Derived.Test.YtnpcjppcoejgmaaPFnExactPickx3
namespace Go.Proofs.Ytnpcjppcoejgmaa.PFnExactPick
open Go.RowKit Go.Proofs.YtnpcjppcoejgmaaW.PrintWords Go.Proofs.YtnpcjppcoejgmaaW.PrintLast Go.Proofs.YtnpcjppcoejgmaaW.PrintMore Go.Proofs.YtnpcjppcoejgmaaQ
attribute [local go_sem] max2_int min2_int max_two min_two max_three min_three max_four min_four   -- for this text's walks alone
set_option linter.unusedVariables false
set_option linter.unusedSimpArgs false

/-! ### spec_Pick: function 14 -/
mutual
def spec_Pick.j0 : Nat → Bool → List Int → List Int → List Int → List Int → Option (List Int × List Int × Int)
 | 0, _, _, _, _, _ => none
 | k + 1, x13, x165000, x165001, x166000, x166001 => if x13 = true then (some (([] : List Int), ([] : List Int), 1)) else (if (x166000.length : Int) = 0 then (some (([] : List Int), ([] : List Int), 4)) else (if (wrap64 ((wrap64 ((x165000.length : Int) + (x166000.length : Int))) - 1)) > 3 then (some (([] : List Int), ([] : List Int), 4)) else (if 0 < (x166000.length : Int) then (spec_Pick.l0 k (rd x166000 0) 0 x165000 x165001 x166000 x166001) else (none))))
def spec_Pick.l0 : Nat → Int → Int → List Int → List Int → List Int → List Int → Option (List Int × List Int × Int)
 | 0, _, _, _, _, _, _ => none
 | k + 1, x7, x8, x165000, x165001, x166000, x166001 => if x8 < (x165001.length : Int) then (if 0 ≤ x8 then ((spec_l1In.f (rd x165001 x8) (wrap64 (-x7)) (wrap64 (x7 - 1))).bind fun t172 => (if t172 = true then (spec_Pick.l0 k x7 (wrap64 (x8 + 1)) x165000 x165001 x166000 x166001) else (some (([] : List Int), ([] : List Int), 5)))) else (none)) else ((some (([] : List Int) : List Int)).bind fun y173 => (if y173.length + x165000.length < 17592186044416 then ((some (y173 ++ x165000 : List Int)).bind fun y176 => (if 1 ≤ (x166000.length : Int) then (if y176.length + (x166000.drop 1).length < 17592186044416 then ((some (y176 ++ (x166000.drop 1) : List Int)).bind fun y180 => ((spec_l3Rows.f k x166000 x166001).bind fun t184 => ((spec_ShapeOk.f k y180).bind fun t187 => (if t187 = true then (spec_Pick.l1 k x7 t184 0 x165000 x165001 y180 ([] : List Int)) else (some (([] : List Int), ([] : List Int), 6)))))) else (none)) else (none))) else (none)))
def spec_Pick.l1 : Nat → Int → List (S28) → Int → List Int → List Int → List Int → List Int → Option (List Int × List Int × Int)
 | 0, _, _, _, _, _, _, _ => none
 | k + 1, x7, x10, x11, x165000, x165001, x184000, x184001 => if x11 < (x165001.length : Int) then (if 0 ≤ x11 then (if x7 = 0 then (none) else (if 0 ≤ (Int.tmod (wrap64 ((rd x165001 x11) + x7)) x7) then (if (Int.tmod (wrap64 ((rd x165001 x11) + x7)) x7) < (x10.length : Int) then (if x184001.length + ((rd_T28 x10 (Int.tmod (wrap64 ((rd x165001 x11) + x7)) x7)).f1).length < 17592186044416 then (spec_Pick.l1 k x7 x10 (wrap64 (x11 + 1)) x165000 x165001 x184000 (x184001 ++ ((rd_T28 x10 (Int.tmod (wrap64 ((rd x165001 x11) + x7)) x7)).f1))) else (none)) else (none)) else (none))) else (none)) else (some (x184000, x184001, 0))
end
def spec_Pick.f (k : Nat) (l0_0 : List Int) (l0_1 : List Int) (l1_0 : List Int) (l1_1 : List Int) : Option (List Int × List Int × Int) := (spec_ArrayOk.f k l0_0 l0_1).bind fun t168 => (if t168 = true then ((spec_ArrayOk.f k l1_0 l1_1).bind fun t169 => (spec_Pick.j0 k (!t169) l0_0 l0_1 l1_0 l1_1)) else (spec_Pick.j0 k true l0_0 l0_1 l1_0 l1_1))
def spec_Pick.T12 : Bool × List (List Nat × List Nat) := (true, [([], []), ([], []), ([1], [1]), ([0, 2], [0, 2]), ([], []), ([4], [4]), ([5], [5]), ([3, 6, 3], [3, 6]), ([7], [7]), ([], []), ([9, 8, 7, 0, 1, 2, 3, 4, 5, 6, 7, 8, 9], [8, 9])])
def spec_Pick.B12 : List Nat := [0, 0, 2, 7, 0, 16, 48, 127, 255, 0, 1023]
theorem spec_Pick.tab12 : rtab .any (opsOf Try.f14 12) = spec_Pick.T12 := by kernel_rfl
theorem spec_Pick.bits12 : waitsOk spec_Pick.T12.2 spec_Pick.B12 = true := by kernel_rfl
def spec_Pick.T19 : Bool × List (List Nat × List Nat) := (true, [([], []), ([0], [0]), ([], []), ([], []), ([3], [3]), ([], []), ([4, 5], [4, 5]), ([6], [6]), ([], []), ([7, 8], [7, 8]), ([], []), ([9, 10], [9, 10]), ([2, 11], [2, 11]), ([12], [12]), ([13], [13]), ([1, 14], [1, 14]), ([0, 1, 2, 3, 4, 5, 6, 7, 8, 9, 10, 11, 12, 13, 14, 15], []), ([16, 15, 15, 0, 1, 2, 3, 4, 5, 6, 7, 8, 9, 10, 11, 12, 13, 14, 15], [15, 16])])
def spec_Pick.B19 : List Nat := [0, 1, 0, 0, 8, 0, 56, 120, 0, 504, 0, 2040, 4092, 8188, 16380, 32767, 65535, 131071]
theorem spec_Pick.tab19 : rtab .any (opsOf Try.f14 19) = spec_Pick.T19 := by kernel_rfl
theorem spec_Pick.bits19 : waitsOk spec_Pick.T19.2 spec_Pick.B19 = true := by kernel_rfl
set_option maxHeartbeats 8000000 in
set_option maxRecDepth 100000 in
theorem spec_Pick.calls (k : Nat) (A0_0 : Option Addr) (c0_0 : Nat) (l0_0 : List Int) (A0_1 : Option Addr) (c0_1 : Nat) (l0_1 : List Int) (A1_0 : Option Addr) (c1_0 : Nat) (l1_0 : List Int) (A1_1 : Option Addr) (c1_1 : Nat) (l1_1 : List Int) (r1 : List Int) (r2 : List Int) (r3 : Int) (w : World) (hr0_0 : Kd.C (Kd.int .i64) w A0_0 l0_0.length l0_0) (hc0_0 : l0_0.length ≤ c0_0) (hr0_1 : Kd.C (Kd.int .i64) w A0_1 l0_1.length l0_1) (hc0_1 : l0_1.length ≤ c0_1) (hr1_0 : Kd.C (Kd.int .i64) w A1_0 l1_0.length l1_0) (hc1_0 : l1_0.length ≤ c1_0) (hr1_1 : Kd.C (Kd.int .i64) w A1_1 l1_1.length l1_1) (hc1_1 : l1_1.length ≤ c1_1) (h : spec_Pick.f k l0_0 l0_1 l1_0 l1_1 = some (r1, r2, r3)) :
  Calls Try.prog 14 #[.agg #[.slice A0_0 l0_0.length c0_0, .slice A0_1 l0_1.length c0_1], .agg #[.slice A1_0 l1_0.length c1_0, .slice A1_1 l1_1.length c1_1]] w fun e w' => ∃ v0_ v1_ : Value, e = .returned (.tuple #[.agg #[v0_, v1_], .int .i64 r3]) ∧ Kd.R (Kd.int .i64) 3 w' w.heap.size (fun k_ => some k_ ≠ (v1_ : Value).ownBlock) v0_ r1 ∧ Kd.R (Kd.int .i64) 3 w' w.heap.size (fun k_ => some k_ ≠ (v0_ : Value).ownBlock) v1_ r2 ∧ Below w.heap.size w w' := by
 have hu28 := Try.underlying28
 have HR0_0 := Aside0.mk hr0_0
 have HC0_0 := Aside0.mk hc0_0
 clear hr0_0 hc0_0
 have HR0_1 := Aside0.mk hr0_1
 have HC0_1 := Aside0.mk hc0_1
 clear hr0_1 hc0_1
 have HR1_0 := Aside0.mk hr1_0
 have HC1_0 := Aside0.mk hc1_0
 clear hr1_0 hc1_0
 have HR1_1 := Aside0.mk hr1_1
 have HC1_1 := Aside0.mk hc1_1
 clear hr1_1 hc1_1
 have HB := Aside0.mk (Below.refl w.heap.size w)
 have H : ((spec_ArrayOk.f k l0_0 l0_1).bind fun t168 => (if t168 = true then ((spec_ArrayOk.f k l1_0 l1_1).bind fun t169 => (spec_Pick.j0 k (!t169) l0_0 l0_1 l1_0 l1_1)) else (spec_Pick.j0 k true l0_0 l0_1 l1_0 l1_1))) = some (r1, r2, r3) := h
 clear h
 have HC3 := Aside0.mk H
 clear H
 go_enter Try.func14, Try.ntmps14
 go_upto_region 2 with (first | ((with_reducible refine gate_dst (N := 2) rfl ?_); (try (refine gate_guard (by rfl) ?_; dsimp only)); refine box_event ?hg (N := 2) ?hd (cs := #[.slice A0_0 l0_0.length c0_0, .slice A0_1 l0_1.length c0_1]) (t := 28) ?hr ?_; (case hd => rfl); (case hg => rfl); (case hr => first | (go_simp; done) | (go_simp; rfl)); intro gb164 hg w4 hbox hb; have BK164 := Aside0.mk (hbox); have GW164 := Aside0.mk ((by rw [hg]; exact (below_size (bU HB.out)) : w.heap.size ≤ gb164)); have GE164 := Aside0.mk ((by rw [hg]; exact (below_size (bU HB.out)) : w.heap.size ≤ gb164)); replace HB := Aside0.mk (below_step (bU HB.out) hb); clear hb hbox hg) | ((with_reducible refine gate_dst (N := 3) rfl ?_); (try (refine gate_guard (by rfl) ?_; dsimp only)); refine box_event ?hg (N := 3) ?hd (cs := #[.slice A1_0 l1_0.length c1_0, .slice A1_1 l1_1.length c1_1]) (t := 28) ?hr ?_; (case hd => rfl); (case hg => rfl); (case hr => first | (go_simp; done) | (go_simp; rfl)); intro gb165 hg w5 hbox hb; have BK165 := Aside0.mk (hbox); have GW165 := Aside0.mk ((by rw [hg]; exact (below_size (bS1 HB.out GE164.out)) : w.heap.size ≤ gb165)); have GE165 := Aside0.mk ((by rw [hg]; exact (below_size (bS1 HB.out GE164.out)) : w.heap.size ≤ gb165)); replace HB := Aside0.mk (below_step (bS1 HB.out GE164.out) hb); have NB164_165 := Aside0.mk (kN BK164.out hg); have NB165_164 := Aside0.mk (kM BK164.out hg); replace BK164 := Aside0.mk (kB BK164.out hb); clear hb hbox hg) | ((with_reducible refine gate_dst (N := 4) rfl ?_); (try (refine gate_guard (by rfl) ?_; dsimp only)); refine box_event ?hg (N := 4) ?hd (cs := #[.slice none 0 0, .slice none 0 0]) (t := 28) ?hr ?_; (case hd => rfl); (case hg => rfl); (case hr => first | (go_simp; done) | (go_simp; rfl)); intro gb166 hg w6 hbox hb; have BK166 := Aside0.mk (hbox); have GW166 := Aside0.mk ((by rw [hg]; exact (below_size (bS2 HB.out GE164.out GE165.out)) : w.heap.size ≤ gb166)); have GE166 := Aside0.mk ((by rw [hg]; exact (below_size (bS2 HB.out GE164.out GE165.out)) : w.heap.size ≤ gb166)); replace HB := Aside0.mk (below_step (bS2 HB.out GE164.out GE165.out) hb); have NB164_166 := Aside0.mk (kN BK164.out hg); have NB166_164 := Aside0.mk (kM BK164.out hg); replace BK164 := Aside0.mk (kB BK164.out hb); have NB165_166 := Aside0.mk (kN BK165.out hg); have NB166_165 := Aside0.mk (kM BK165.out hg); replace BK165 := Aside0.mk (kB BK165.out hb); clear hb hbox hg) | ((with_reducible refine gate_dst (N := 6) rfl ?_); (try (refine gate_guard (by rfl) ?_; dsimp only)); refine box_event ?hg (N := 6) ?hd (cs := #[.slice none 0 0, .slice none 0 0]) (t := 28) ?hr ?_; (case hd => rfl); (case hg => rfl); (case hr => first | (go_simp; done) | (go_simp; rfl)); intro gb167 hg w7 hbox hb; have BK167 := Aside0.mk (hbox); have GW167 := Aside0.mk ((by rw [hg]; exact (below_size (bS3 HB.out GE164.out GE165.out GE166.out)) : w.heap.size ≤ gb167)); have GE167 := Aside0.mk ((by rw [hg]; exact (below_size (bS3 HB.out GE164.out GE165.out GE166.out)) : w.heap.size ≤ gb167)); replace HB := Aside0.mk (below_step (bS3 HB.out GE164.out GE165.out GE166.out) hb); have NB164_167 := Aside0.mk (kN BK164.out hg); have NB167_164 := Aside0.mk (kM BK164.out hg); replace BK164 := Aside0.mk (kB BK164.out hb); have NB165_167 := Aside0.mk (kN BK165.out hg); have NB167_165 := Aside0.mk (kM BK165.out hg); replace BK165 := Aside0.mk (kB BK165.out hb); have NB166_167 := Aside0.mk (kN BK166.out hg); have NB167_166 := Aside0.mk (kM BK166.out hg); replace BK166 := Aside0.mk (kB BK166.out hb); clear hb hbox hg; have hnb8 := NB167_164.out; have hnc8 := NB164_167.out; have hnb9 := NB167_165.out; have hnc9 := NB165_167.out; have hnb10 := NB167_166.out; have hnc10 := NB166_167.out; have hcz11_0 : w7.cell? ⟨gb167, 0, none⟩ = some (.slice none 0 0) := (blk_cell BK167.out 0).trans rfl; have hcz11_1 : w7.cell? ⟨gb167, 1, none⟩ = some (.slice none 0 0) := (blk_cell BK167.out 1).trans rfl; have hfz11_0 := blk_frozen BK167.out 0; have hfz11_1 := blk_frozen BK167.out 1))
 (try simp only [Act.put, List.setIfInBounds_toArray, List.set_cons_zero, List.set_cons_succ])
 go_cut [13] (fun v13 wc => ∃ (kq : Nat) (x13_2 : Bool), v13 = .bool x13_2 ∧ Aside0 (spec_Pick.j0 kq x13_2 l0_0 l0_1 l1_0 l1_1 = some (r1, r2, r3)) ∧ Aside0 (kq ≤ k) ∧ Aside0 (wc.heap[gb164]? = some (.cells #[(.slice A0_0 l0_0.length c0_0), (.slice A0_1 l0_1.length c0_1)] 28 (0, 0))) ∧ Aside0 (wc.heap[gb165]? = some (.cells #[(.slice A1_0 l1_0.length c1_0), (.slice A1_1 l1_1.length c1_1)] 28 (0, 0))) ∧ Aside0 (wc.heap[gb166]? = some (.cells #[(.slice none 0 0), (.slice none 0 0)] 28 (0, 0))) ∧ Aside0 (wc.heap[gb167]? = some (.cells #[(.slice none 0 0), (.slice none 0 0)] 28 (0, 0))) ∧ Aside0 (Below w.heap.size w wc))
 case first =>
  have H := HC3.out
  clear HC3
  replace H := Option.bind_eq_some_iff.mp H
  obtain ⟨t168, A120, H⟩ := H
  replace H : (if t168 = true then ((spec_ArrayOk.f k l1_0 l1_1).bind fun t169 => (spec_Pick.j0 k (!t169) l0_0 l0_1 l1_0 l1_1)) else (spec_Pick.j0 k true l0_0 l0_1 l1_0 l1_1)) = some (r1, r2, r3) := H
  have A12 := Aside0.mk A120
  clear A120
  by_cases c13 : t168 = true
  ·
   subst c13
   have H1 : ((spec_ArrayOk.f k l1_0 l1_1).bind fun t169 => (spec_Pick.j0 k (!t169) l0_0 l0_1 l1_0 l1_1)) = some (r1, r2, r3) := by rw [if_pos rfl] at H; exact H
   clear H
   have H := H1
   clear H1
   replace H := Option.bind_eq_some_iff.mp H
   obtain ⟨t169, A140, H⟩ := H
   replace H : (spec_Pick.j0 k (!t169) l0_0 l0_1 l1_0 l1_1) = some (r1, r2, r3) := H
   have A14 := Aside0.mk A140
   clear A140
   have H' := Aside0.mk H
   clear H
   have hnb15 := NB164_165.out
   have hnc15 := NB165_164.out
   have hnb16 := NB164_166.out
   have hnc16 := NB166_164.out
   have hnb17 := NB164_167.out
   have hnc17 := NB167_164.out
   have hcz18_0 : w7.cell? ⟨gb164, 0, none⟩ = some (.slice A0_0 l0_0.length c0_0) := (blk_cell BK164.out 0).trans rfl
   have hcz18_1 : w7.cell? ⟨gb164, 1, none⟩ = some (.slice A0_1 l0_1.length c0_1) := (blk_cell BK164.out 1).trans rfl
   have hfz18_0 := blk_frozen BK164.out 0
   have hfz18_1 := blk_frozen BK164.out 1
   go_wp2_with (first | ((with_reducible refine gate_callee (f := 18) rfl ?_); refine goesL_ (some 15) rfl rfl Try.func18 (by kernel_rfl) rfl #[.agg #[.slice A0_0 l0_0.length c0_0, .slice A0_1 l0_1.length c0_1]] rfl lU ?_; (with_reducible refine (spec_ArrayOk.calls k _ _ l0_0 _ _ l0_1 true _ ?side1 ?side2 ?side3 ?side4 A12.out).mono ?_); (case side1 => exact Kd.C_below HR0_0.out (bS4 HB.out GE164.out GE165.out GE166.out GE167.out)); (case side2 => exact HC0_0.out); (case side3 => exact Kd.C_below HR0_1.out (bS4 HB.out GE164.out GE165.out GE166.out GE167.out)); (case side4 => exact HC0_1.out); rintro e w19 ⟨rfl, hb⟩; refine ⟨_, rfl, ?_⟩; replace BK164 := Aside0.mk (blk_below (g := gb164) (o := .cells #[.slice A0_0 l0_0.length c0_0, .slice A0_1 l0_1.length c0_1] 28 (0, 0)) (by refine kU ?_; refine blk_far ?_ NB164_167.out _; refine kU ?_; refine blk_far ?_ NB164_167.out _; refine kU ?_; exact BK164.out) hb); replace BK165 := Aside0.mk (blk_below (g := gb165) (o := .cells #[.slice A1_0 l1_0.length c1_0, .slice A1_1 l1_1.length c1_1] 28 (0, 0)) (by refine kU ?_; refine blk_far ?_ NB165_167.out _; refine kU ?_; refine blk_far ?_ NB165_167.out _; refine kU ?_; exact BK165.out) hb); replace BK166 := Aside0.mk (blk_below (g := gb166) (o := .cells #[.slice none 0 0, .slice none 0 0] 28 (0, 0)) (by refine kU ?_; refine blk_far ?_ NB166_167.out _; refine kU ?_; refine blk_far ?_ NB166_167.out _; refine kU ?_; exact BK166.out) hb); replace BK167 := Aside0.mk (blk_below (g := gb167) (o := .cells #[.slice none 0 0, .slice none 0 0] 28 (0, 0)) (by refine kU ?_; refine blk_put (cs := #[.slice none 0 0, .slice none 0 0]) ?_ 1 _ rfl; refine kU ?_; refine blk_put (cs := #[.slice none 0 0, .slice none 0 0]) ?_ 0 _ rfl; refine kU ?_; exact BK167.out) hb); replace HB := Aside0.mk (below_step (bS4 HB.out GE164.out GE165.out GE166.out GE167.out) hb); (try clear hb); (try clear hb2); (try clear hk); (try clear hi); have hnb20 := NB165_166.out; have hnc20 := NB166_165.out; have hnb21 := NB165_167.out; have hnc21 := NB167_165.out; have hcz22_0 : w19.cell? ⟨gb165, 0, none⟩ = some (.slice A1_0 l1_0.length c1_0) := (blk_cell BK165.out 0).trans rfl; have hcz22_1 : w19.cell? ⟨gb165, 1, none⟩ = some (.slice A1_1 l1_1.length c1_1) := (blk_cell BK165.out 1).trans rfl; have hfz22_0 := blk_frozen BK165.out 0; have hfz22_1 := blk_frozen BK165.out 1) | (go_at_call 18; (repeat rw [i64_w]); (with_reducible refine (spec_ArrayOk.calls k _ _ l1_0 _ _ l1_1 t169 _ ?side1 ?side2 ?side3 ?side4 A14.out).mono ?_); (case side1 => exact cU (Kd.C_below HR1_0.out HB.out)); (case side2 => exact HC1_0.out); (case side3 => exact cU (Kd.C_below HR1_1.out HB.out)); (case side4 => exact HC1_1.out); rintro e w23 ⟨rfl, hb⟩; replace BK164 := Aside0.mk (kB BK164.out hb); replace BK165 := Aside0.mk (kB BK165.out hb); replace BK166 := Aside0.mk (kB BK166.out hb); replace BK167 := Aside0.mk (kB BK167.out hb); replace HB := Aside0.mk (below_step (bS4 HB.out GE164.out GE165.out GE166.out GE167.out) hb); (try clear hb); (try clear hb2); (try clear hk); (try clear hi)))
   go_meet
   case rel => exact ⟨_, (!t169), (by first | rfl | (simp; done) | (simp [*]; done)), H', ⟨by first | omega | exact Nat.le_refl _⟩, ⟨by refine kU ?_; exact BK164.out⟩, ⟨by refine kU ?_; exact BK165.out⟩, ⟨by refine kU ?_; exact BK166.out⟩, ⟨by refine kU ?_; exact BK167.out⟩, ⟨by exact bS4 HB.out GE164.out GE165.out GE166.out GE167.out⟩⟩
  ·
   replace c13 := Bool.eq_false_iff.mpr c13
   subst c13
   have H1 : (spec_Pick.j0 k true l0_0 l0_1 l1_0 l1_1) = some (r1, r2, r3) := by rw [if_neg (show ¬ (false = true) by decide)] at H; exact H
   clear H
   have H := H1
   clear H1
   have H' := Aside0.mk H
   clear H
   have hnb24 := NB164_165.out
   have hnc24 := NB165_164.out
   have hnb25 := NB164_166.out
   have hnc25 := NB166_164.out
   have hnb26 := NB164_167.out
   have hnc26 := NB167_164.out
   have hcz27_0 : w7.cell? ⟨gb164, 0, none⟩ = some (.slice A0_0 l0_0.length c0_0) := (blk_cell BK164.out 0).trans rfl
   have hcz27_1 : w7.cell? ⟨gb164, 1, none⟩ = some (.slice A0_1 l0_1.length c0_1) := (blk_cell BK164.out 1).trans rfl
   have hfz27_0 := blk_frozen BK164.out 0
   have hfz27_1 := blk_frozen BK164.out 1
   go_wp2_with (first | ((with_reducible refine gate_callee (f := 18) rfl ?_); refine goesL_ (some 15) rfl rfl Try.func18 (by kernel_rfl) rfl #[.agg #[.slice A0_0 l0_0.length c0_0, .slice A0_1 l0_1.length c0_1]] rfl lU ?_; (with_reducible refine (spec_ArrayOk.calls k _ _ l0_0 _ _ l0_1 false _ ?side1 ?side2 ?side3 ?side4 A12.out).mono ?_); (case side1 => exact Kd.C_below HR0_0.out (bS4 HB.out GE164.out GE165.out GE166.out GE167.out)); (case side2 => exact HC0_0.out); (case side3 => exact Kd.C_below HR0_1.out (bS4 HB.out GE164.out GE165.out GE166.out GE167.out)); (case side4 => exact HC0_1.out); rintro e w28 ⟨rfl, hb⟩; refine ⟨_, rfl, ?_⟩; replace BK164 := Aside0.mk (blk_below (g := gb164) (o := .cells #[.slice A0_0 l0_0.length c0_0, .slice A0_1 l0_1.length c0_1] 28 (0, 0)) (by refine kU ?_; refine blk_far ?_ NB164_167.out _; refine kU ?_; refine blk_far ?_ NB164_167.out _; refine kU ?_; exact BK164.out) hb); replace BK165 := Aside0.mk (blk_below (g := gb165) (o := .cells #[.slice A1_0 l1_0.length c1_0, .slice A1_1 l1_1.length c1_1] 28 (0, 0)) (by refine kU ?_; refine blk_far ?_ NB165_167.out _; refine kU ?_; refine blk_far ?_ NB165_167.out _; refine kU ?_; exact BK165.out) hb); replace BK166 := Aside0.mk (blk_below (g := gb166) (o := .cells #[.slice none 0 0, .slice none 0 0] 28 (0, 0)) (by refine kU ?_; refine blk_far ?_ NB166_167.out _; refine kU ?_; refine blk_far ?_ NB166_167.out _; refine kU ?_; exact BK166.out) hb); replace BK167 := Aside0.mk (blk_below (g := gb167) (o := .cells #[.slice none 0 0, .slice none 0 0] 28 (0, 0)) (by refine kU ?_; refine blk_put (cs := #[.slice none 0 0, .slice none 0 0]) ?_ 1 _ rfl; refine kU ?_; refine blk_put (cs := #[.slice none 0 0, .slice none 0 0]) ?_ 0 _ rfl; refine kU ?_; exact BK167.out) hb); replace HB := Aside0.mk (below_step (bS4 HB.out GE164.out GE165.out GE166.out GE167.out) hb); (try clear hb); (try clear hb2); (try clear hk); (try clear hi)))
   go_meet
   case rel => exact ⟨_, (true), (by first | rfl | (simp; done) | (simp [*]; done)), H', ⟨by first | omega | exact Nat.le_refl _⟩, ⟨by refine kU ?_; exact BK164.out⟩, ⟨by refine kU ?_; exact BK165.out⟩, ⟨by refine kU ?_; exact BK166.out⟩, ⟨by refine kU ?_; exact BK167.out⟩, ⟨by exact bS4 HB.out GE164.out GE165.out GE166.out GE167.out⟩⟩
 case rest =>
  clear HC3
  try clear c1
  try clear c2
  try clear p2
  try clear c8
  try clear c9
  try clear c10
  try clear c13
  try clear c14
  try clear c15
  try clear c16
  try clear c17
  try clear c18
  try clear c20
  try clear c21
  try clear c24
  try clear c25
  try clear c26
  try clear hcz11_0
  try clear hcz11_1
  try clear hcz18_0
  try clear hcz18_1
  try clear hcz22_0
  try clear hcz22_1
  try clear hcz27_0
  try clear hcz27_1
  try clear hfz11_0
  try clear hfz11_1
  try clear hfz18_0
  try clear hfz18_1
  try clear hfz22_0
  try clear hfz22_1
  try clear hfz27_0
  try clear hfz27_1
  obtain ⟨kq, x13_2, rfl, HA, HJ2, BK164, BK165, BK166, BK167, HB⟩ := hcut
  cases kq with
  | zero => exact absurd HA.out (by simp [spec_Pick.j0])
  | succ kj2 =>
   have H := HA.out
   clear HA
   simp only [spec_Pick.j0] at H
   by_cases c29 : x13_2 = true
   ·
    subst c29
    have H1 : (some (([] : List Int), ([] : List Int), 1)) = some (r1, r2, r3) := by rw [if_pos rfl] at H; exact H
    clear H
    have H := H1
    clear H1
    simp only [Option.some.injEq, Prod.mk.injEq] at H
    obtain ⟨rfl, rfl, rfl⟩ := H
    have hnb30 := NB167_164.out
    have hnc30 := NB164_167.out
    have hnb31 := NB167_165.out
    have hnc31 := NB165_167.out
    have hnb32 := NB167_166.out
    have hnc32 := NB166_167.out
    have hcz33_0 : wc.cell? ⟨gb167, 0, none⟩ = some (.slice none 0 0) := (blk_cell BK167.out 0).trans rfl
    have hcz33_1 : wc.cell? ⟨gb167, 1, none⟩ = some (.slice none 0 0) := (blk_cell BK167.out 1).trans rfl
    have hfz33_0 := blk_frozen BK167.out 0
    have hfz33_1 := blk_frozen BK167.out 1
    have hnb34 := NB166_164.out
    have hnc34 := NB164_166.out
    have hnb35 := NB166_165.out
    have hnc35 := NB165_166.out
    have hcz36_0 : wc.cell? ⟨gb166, 0, none⟩ = some (.slice none 0 0) := (blk_cell BK166.out 0).trans rfl
    have hcz36_1 : wc.cell? ⟨gb166, 1, none⟩ = some (.slice none 0 0) := (blk_cell BK166.out 1).trans rfl
    have hfz36_0 := blk_frozen BK166.out 0
    have hfz36_1 := blk_frozen BK166.out 1
    go_wp2
    refine bodyPost_ret (results_ct rfl _ _ gb166 28 #[.slice none 0 0, .slice none 0 0] (0, 0) _ rfl (by refine kU ?_; refine blk_put (cs := #[.slice none 0 0, .slice none 0 0]) ?_ 1 _ rfl; refine kU ?_; refine blk_put (cs := #[.slice none 0 0, .slice none 0 0]) ?_ 0 _ rfl; refine kU ?_; exact BK166.out) Try.underlying28 rfl (by kernel_rfl)) rfl ?_
    exact ⟨_, _, by first | rfl | (simp [errW_none, errW_some] <;> rfl) | (simp [*, errW_none, errW_some] <;> rfl), by first | exact Kd.R_nil _ _ _ _ _ | exact Kd.N_nil _ _ _ _ _ | exact Kd.V_nil _ _ _ _ _ | exact Kd.Q_nil _ _ _ _ _ | exact Kd.S_nil _ _ _ _ _, by first | exact Kd.R_nil _ _ _ _ _ | exact Kd.N_nil _ _ _ _ _ | exact Kd.V_nil _ _ _ _ _ | exact Kd.Q_nil _ _ _ _ _ | exact Kd.S_nil _ _ _ _ _, by exact bS4 HB.out GE164.out GE165.out GE166.out GE167.out⟩
   ·
    replace c29 := Bool.eq_false_iff.mpr c29
    subst c29
    have H1 : (if (l1_0.length : Int) = 0 then (some (([] : List Int), ([] : List Int), 4)) else (if (wrap64 ((wrap64 ((l0_0.length : Int) + (l1_0.length : Int))) - 1)) > 3 then (some (([] : List Int), ([] : List Int), 4)) else (if 0 < (l1_0.length : Int) then (spec_Pick.l0 kj2 (rd l1_0 0) 0 l0_0 l0_1 l1_0 l1_1) else (none)))) = some (r1, r2, r3) := by rw [if_neg (show ¬ (false = true) by decide)] at H; exact H
    clear H
    have H := H1
    clear H1
    by_cases c37 : (l1_0.length : Int) = 0
    ·
     rw [if_pos c37] at H
     have c37b0 : ((l1_0.length : Int) == 0) = true := beq_iff_eq.mpr c37
     have c37b1 : ((l1_0.length : Int) != 0) = false := bne_eq_false_iff_eq.mpr c37
     clear c37
     simp only [Option.some.injEq, Prod.mk.injEq] at H
     obtain ⟨rfl, rfl, rfl⟩ := H
     have hnb38 := NB165_164.out
     have hnc38 := NB164_165.out
     have hnb39 := NB165_166.out
     have hnc39 := NB166_165.out
     have hnb40 := NB165_167.out
     have hnc40 := NB167_165.out
     have hcz41_0 : wc.cell? ⟨gb165, 0, none⟩ = some (.slice A1_0 l1_0.length c1_0) := (blk_cell BK165.out 0).trans rfl
     have hcz41_1 : wc.cell? ⟨gb165, 1, none⟩ = some (.slice A1_1 l1_1.length c1_1) := (blk_cell BK165.out 1).trans rfl
     have hfz41_0 := blk_frozen BK165.out 0
     have hfz41_1 := blk_frozen BK165.out 1
     have hnb42 := NB167_164.out
     have hnc42 := NB164_167.out
     have hnb43 := NB167_166.out
     have hnc43 := NB166_167.out
     have hcz44_0 : wc.cell? ⟨gb167, 0, none⟩ = some (.slice none 0 0) := (blk_cell BK167.out 0).trans rfl
     have hcz44_1 : wc.cell? ⟨gb167, 1, none⟩ = some (.slice none 0 0) := (blk_cell BK167.out 1).trans rfl
     have hfz44_0 := blk_frozen BK167.out 0
     have hfz44_1 := blk_frozen BK167.out 1
     have hnb45 := NB166_164.out
     have hnc45 := NB164_166.out
     have hcz46_0 : wc.cell? ⟨gb166, 0, none⟩ = some (.slice none 0 0) := (blk_cell BK166.out 0).trans rfl
     have hcz46_1 : wc.cell? ⟨gb166, 1, none⟩ = some (.slice none 0 0) := (blk_cell BK166.out 1).trans rfl
     have hfz46_0 := blk_frozen BK166.out 0
     have hfz46_1 := blk_frozen BK166.out 1
     go_wp2
     refine bodyPost_ret (results_ct rfl _ _ gb166 28 #[.slice none 0 0, .slice none 0 0] (0, 0) _ rfl (by refine kU ?_; refine blk_put (cs := #[.slice none 0 0, .slice none 0 0]) ?_ 1 _ rfl; refine kU ?_; refine blk_put (cs := #[.slice none 0 0, .slice none 0 0]) ?_ 0 _ rfl; refine kU ?_; exact BK166.out) Try.underlying28 rfl (by kernel_rfl)) rfl ?_
     exact ⟨_, _, by first | rfl | (simp [errW_none, errW_some] <;> rfl) | (simp [*, errW_none, errW_some] <;> rfl), by first | exact Kd.R_nil _ _ _ _ _ | exact Kd.N_nil _ _ _ _ _ | exact Kd.V_nil _ _ _ _ _ | exact Kd.Q_nil _ _ _ _ _ | exact Kd.S_nil _ _ _ _ _, by first | exact Kd.R_nil _ _ _ _ _ | exact Kd.N_nil _ _ _ _ _ | exact Kd.V_nil _ _ _ _ _ | exact Kd.Q_nil _ _ _ _ _ | exact Kd.S_nil _ _ _ _ _, by exact bS4 HB.out GE164.out GE165.out GE166.out GE167.out⟩
    ·
     rw [if_neg c37] at H
     have c37b0 : ((l1_0.length : Int) == 0) = false := beq_eq_false_iff_ne.mpr c37
     have c37b1 : ((l1_0.length : Int) != 0) = true := bne_iff_ne.mpr c37
     have c37b2 : ¬ (l1_0 = []) := fun h_ => c37 (by rw [h_]; rfl)
     by_cases c47 : (wrap64 ((wrap64 ((l0_0.length : Int) + (l1_0.length : Int))) - 1)) > 3
     ·
      rw [if_pos c47] at H
      have c47b0 : decide (3 < (wrap64 ((wrap64 ((l0_0.length : Int) + (l1_0.length : Int))) - 1))) = true := decide_eq_true c47
      clear c47
      simp only [Option.some.injEq, Prod.mk.injEq] at H
      obtain ⟨rfl, rfl, rfl⟩ := H
      have hnb48 := NB165_164.out
      have hnc48 := NB164_165.out
      have hnb49 := NB165_166.out
      have hnc49 := NB166_165.out
      have hnb50 := NB165_167.out
      have hnc50 := NB167_165.out
      have hcz51_0 : wc.cell? ⟨gb165, 0, none⟩ = some (.slice A1_0 l1_0.length c1_0) := (blk_cell BK165.out 0).trans rfl
      have hcz51_1 : wc.cell? ⟨gb165, 1, none⟩ = some (.slice A1_1 l1_1.length c1_1) := (blk_cell BK165.out 1).trans rfl
      have hfz51_0 := blk_frozen BK165.out 0
      have hfz51_1 := blk_frozen BK165.out 1
      have hnb52 := NB164_166.out
      have hnc52 := NB166_164.out
      have hnb53 := NB164_167.out
      have hnc53 := NB167_164.out
      have hcz54_0 : wc.cell? ⟨gb164, 0, none⟩ = some (.slice A0_0 l0_0.length c0_0) := (blk_cell BK164.out 0).trans rfl
      have hcz54_1 : wc.cell? ⟨gb164, 1, none⟩ = some (.slice A0_1 l0_1.length c0_1) := (blk_cell BK164.out 1).trans rfl
      have hfz54_0 := blk_frozen BK164.out 0
      have hfz54_1 := blk_frozen BK164.out 1
      have hnb55 := NB167_166.out
      have hnc55 := NB166_167.out
      have hcz56_0 : wc.cell? ⟨gb167, 0, none⟩ = some (.slice none 0 0) := (blk_cell BK167.out 0).trans rfl
      have hcz56_1 : wc.cell? ⟨gb167, 1, none⟩ = some (.slice none 0 0) := (blk_cell BK167.out 1).trans rfl
      have hfz56_0 := blk_frozen BK167.out 0
      have hfz56_1 := blk_frozen BK167.out 1
      have hcz57_0 : wc.cell? ⟨gb166, 0, none⟩ = some (.slice none 0 0) := (blk_cell BK166.out 0).trans rfl
      have hcz57_1 : wc.cell? ⟨gb166, 1, none⟩ = some (.slice none 0 0) := (blk_cell BK166.out 1).trans rfl
      have hfz57_0 := blk_frozen BK166.out 0
      have hfz57_1 := blk_frozen BK166.out 1
      go_wp2
      refine bodyPost_ret (results_ct rfl _ _ gb166 28 #[.slice none 0 0, .slice none 0 0] (0, 0) _ rfl (by refine kU ?_; refine blk_put (cs := #[.slice none 0 0, .slice none 0 0]) ?_ 1 _ rfl; refine kU ?_; refine blk_put (cs := #[.slice none 0 0, .slice none 0 0]) ?_ 0 _ rfl; refine kU ?_; exact BK166.out) Try.underlying28 rfl (by kernel_rfl)) rfl ?_
      exact ⟨_, _, by first | rfl | (simp [errW_none, errW_some] <;> rfl) | (simp [*, errW_none, errW_some] <;> rfl), by first | exact Kd.R_nil _ _ _ _ _ | exact Kd.N_nil _ _ _ _ _ | exact Kd.V_nil _ _ _ _ _ | exact Kd.Q_nil _ _ _ _ _ | exact Kd.S_nil _ _ _ _ _, by first | exact Kd.R_nil _ _ _ _ _ | exact Kd.N_nil _ _ _ _ _ | exact Kd.V_nil _ _ _ _ _ | exact Kd.Q_nil _ _ _ _ _ | exact Kd.S_nil _ _ _ _ _, by exact bS4 HB.out GE164.out GE165.out GE166.out GE167.out⟩
     ·
      rw [if_neg c47] at H
      have c47b0 : decide (3 < (wrap64 ((wrap64 ((l0_0.length : Int) + (l1_0.length : Int))) - 1))) = false := decide_eq_false c47
      clear c47
      by_cases c58 : 0 < (l1_0.length : Int)
      ·
       rw [if_pos c58] at H
       have c58b0 : decide (0 < (l1_0.length : Int)) = true := decide_eq_true c58
       have c58b1 : decide (0 < l1_0.length) = true := decide_eq_true (by omega)
       clear c58
       have H' := Aside0.mk H
       clear H
       have hnb59 := NB165_164.out
       have hnc59 := NB164_165.out
       have hnb60 := NB165_166.out
       have hnc60 := NB166_165.out
       have hnb61 := NB165_167.out
       have hnc61 := NB167_165.out
       have hcz62_0 : wc.cell? ⟨gb165, 0, none⟩ = some (.slice A1_0 l1_0.length c1_0) := (blk_cell BK165.out 0).trans rfl
       have hcz62_1 : wc.cell? ⟨gb165, 1, none⟩ = some (.slice A1_1 l1_1.length c1_1) := (blk_cell BK165.out 1).trans rfl
       have hfz62_0 := blk_frozen BK165.out 0
       have hfz62_1 := blk_frozen BK165.out 1
       have hnb63 := NB164_166.out
       have hnc63 := NB166_164.out
       have hnb64 := NB164_167.out
       have hnc64 := NB167_164.out
       have hcz65_0 : wc.cell? ⟨gb164, 0, none⟩ = some (.slice A0_0 l0_0.length c0_0) := (blk_cell BK164.out 0).trans rfl
       have hcz65_1 : wc.cell? ⟨gb164, 1, none⟩ = some (.slice A0_1 l0_1.length c0_1) := (blk_cell BK164.out 1).trans rfl
       have hfz65_0 := blk_frozen BK164.out 0
       have hfz65_1 := blk_frozen BK164.out 1
       have p170 : 0 ≤ (0 : Int) := (by omega)
       have q170 : 0 < (l1_0.length : Int) := of_decide_eq_true (by first | (with_reducible assumption) | assumption)
       obtain ⟨ad170, e170, hx170_0⟩ := Kd.at_int HR1_0.out 0 p170 q170
       cases e170
       have qi170 : (0 < l1_0.length) = True := eq_true (by omega)
       (try rw [show ((0 : Int)).toNat = 0 from rfl] at hx170_0)
       (try rw [Addr.add_zero'] at hx170_0)
       replace hx170_0 := (HB.out.cell (World.block_lt_of_cell? w _ hx170_0)).trans hx170_0
       replace p170 := eq_true p170
       replace q170 := eq_true q170
       go_wp2
       go_loopg [8] kj2 (fun kq v8 w' => ∃ (x8_2 : Int), v8 = .int .i64 x8_2 ∧ Aside0 (spec_Pick.l0 kq (rd l1_0 0) x8_2 l0_0 l0_1 l1_0 l1_1 = some (r1, r2, r3)) ∧ Aside0 (kq ≤ kj2) ∧ Aside0 (w'.heap[gb164]? = some (.cells #[(.slice A0_0 l0_0.length c0_0), (.slice A0_1 l0_1.length c0_1)] 28 (0, 0))) ∧ Aside0 (w'.heap[gb165]? = some (.cells #[(.slice (some ad170) l1_0.length c1_0), (.slice A1_1 l1_1.length c1_1)] 28 (0, 0))) ∧ Aside0 (w'.heap[gb166]? = some (.cells #[(.slice none 0 0), (.slice none 0 0)] 28 (0, 0))) ∧ Aside0 (w'.heap[gb167]? = some (.cells #[(.slice none 0 0), (.slice none 0 0)] 28 (0, 0))) ∧ Aside0 (Below w.heap.size w w'))
       case atStart => exact ⟨(0), (by first | rfl | (simp; done) | (simp [*]; done)), H', ⟨Nat.le_refl _⟩, ⟨by refine kU ?_; exact BK164.out⟩, ⟨by refine kU ?_; exact BK165.out⟩, ⟨by refine kU ?_; exact BK166.out⟩, ⟨by refine kU ?_; exact BK167.out⟩, ⟨by exact bS4 HB.out GE164.out GE165.out GE166.out GE167.out⟩⟩
       case round =>
        clear H'
        try clear c1
        try clear p1
        try clear q1
        try clear hx1
        try clear qi1
        try clear c2
        try clear p2
        try clear c3
        try clear c4
        try clear c5
        try clear c6
        try clear p6
        try clear c8
        try clear c9
        try clear c10
        try clear c13
        try clear c14
        try clear c15
        try clear c16
        try clear c17
        try clear p17
        try clear q17
        try clear hx17
        try clear qi17
        try clear c18
        try clear c20
        try clear c21
        try clear c24
        try clear c25
        try clear c26
        try clear c29
        try clear c30
        try clear c31
        try clear c32
        try clear c34
        try clear c35
        try clear c37
        try clear c37b0
        try clear c37b1
        try clear c37b2
        try clear c38
        try clear c39
        try clear c40
        try clear c42
        try clear c43
        try clear c45
        try clear c47
        try clear c47b0
        try clear c48
        try clear c49
        try clear c50
        try clear c52
        try clear c53
        try clear c55
        try clear c58
        try clear c58b0
        try clear c58b1
        try clear c59
        try clear c60
        try clear c61
        try clear c63
        try clear c64
        try clear p64
        try clear hcz11_0
        try clear hcz11_1
        try clear hcz18_0
        try clear hcz18_1
        try clear hcz22_0
        try clear hcz22_1
        try clear hcz27_0
        try clear hcz27_1
        try clear hcz33_0
        try clear hcz33_1
        try clear hcz36_0
        try clear hcz36_1
        try clear hcz41_0
        try clear hcz41_1
        try clear hcz44_0
        try clear hcz44_1
        try clear hcz46_0
        try clear hcz46_1
        try clear hcz51_0
        try clear hcz51_1
        try clear hcz54_0
        try clear hcz54_1
        try clear hcz56_0
        try clear hcz56_1
        try clear hcz57_0
        try clear hcz57_1
        try clear hcz62_0
        try clear hcz62_1
        try clear hcz65_0
        try clear hcz65_1
        try clear hfz11_0
        try clear hfz11_1
        try clear hfz18_0
        try clear hfz18_1
        try clear hfz22_0
        try clear hfz22_1
        try clear hfz27_0
        try clear hfz27_1
        try clear hfz33_0
        try clear hfz33_1
        try clear hfz36_0
        try clear hfz36_1
        try clear hfz41_0
        try clear hfz41_1
        try clear hfz44_0
        try clear hfz44_1
        try clear hfz46_0
        try clear hfz46_1
        try clear hfz51_0
        try clear hfz51_1
        try clear hfz54_0
        try clear hfz54_1
        try clear hfz56_0
        try clear hfz56_1
        try clear hfz57_0
        try clear hfz57_1
        try clear hfz62_0
        try clear hfz62_1
        try clear hfz65_0
        try clear hfz65_1
        try clear hx170_0
        try clear p170
        try clear p2
        try clear q170
        obtain ⟨x8_2, rfl, HA, HK2, BK164, BK165, BK166, BK167, HB⟩ := hrel
        cases gk with
        | zero => exact absurd HA.out (by simp [spec_Pick.l0])
        | succ k2 =>
         have H := HA.out
         clear HA
         simp only [spec_Pick.l0] at H
         by_cases c66 : x8_2 < (l0_1.length : Int)
         ·
          rw [if_pos c66] at H
          have c66b0 : decide (x8_2 < (l0_1.length : Int)) = true := decide_eq_true c66
          clear c66
          by_cases c67 : 0 ≤ x8_2
          ·
           rw [if_pos c67] at H
           have c67b0 : decide (0 ≤ x8_2) = true := decide_eq_true c67
           clear c67
           replace H := Option.bind_eq_some_iff.mp H
           obtain ⟨t172, A680, H⟩ := H
           replace H : (if t172 = true then (spec_Pick.l0 k2 (rd l1_0 0) (wrap64 (x8_2 + 1)) l0_0 l0_1 l1_0 l1_1) else (some (([] : List Int), ([] : List Int), 5))) = some (r1, r2, r3) := H
           have A68 := Aside0.mk A680
           clear A680
           by_cases c69 : t172 = true
           ·
            subst c69
            have H1 : (spec_Pick.l0 k2 (rd l1_0 0) (wrap64 (x8_2 + 1)) l0_0 l0_1 l1_0 l1_1) = some (r1, r2, r3) := by rw [if_pos rfl] at H; exact H
            clear H
            have H := H1
            clear H1
            have H' := Aside0.mk H
            clear H
            have hnb70 := NB164_165.out
            have hnc70 := NB165_164.out
            have hnb71 := NB164_166.out
            have hnc71 := NB166_164.out
            have hnb72 := NB164_167.out
            have hnc72 := NB167_164.out
            have hcz73_0 : wr.cell? ⟨gb164, 0, none⟩ = some (.slice A0_0 l0_0.length c0_0) := (blk_cell BK164.out 0).trans rfl
            have hcz73_1 : wr.cell? ⟨gb164, 1, none⟩ = some (.slice A0_1 l0_1.length c0_1) := (blk_cell BK164.out 1).trans rfl
            have hfz73_0 := blk_frozen BK164.out 0
            have hfz73_1 := blk_frozen BK164.out 1
            have p171 : 0 ≤ (x8_2 : Int) := of_decide_eq_true (by first | (with_reducible assumption) | assumption)
            have q171 : x8_2 < (l0_1.length : Int) := of_decide_eq_true (by first | (with_reducible assumption) | assumption)
            obtain ⟨ad171, e171, hx171_0⟩ := Kd.at_int HR0_1.out x8_2 p171 q171
            cases e171
            replace hx171_0 := (HB.out.cell (World.block_lt_of_cell? w _ hx171_0)).trans hx171_0
            replace p171 := eq_true p171
            replace q171 := eq_true q171
            go_wp2_with (first | ((with_reducible refine gate_callee (f := 27) rfl ?_); refine goesL_ (some 60) rfl rfl Try.func27 (by kernel_rfl) rfl #[.int .i64 (rd l0_1 x8_2), .int .i64 (wrap64 (-(rd l1_0 0))), .int .i64 (wrap64 ((rd l1_0 0) - 1))] rfl lU ?_; (with_reducible refine (spec_l1In.calls (rd l0_1 x8_2) (wrap64 (-(rd l1_0 0))) (wrap64 ((rd l1_0 0) - 1)) true _ A68.out).mono ?_); rintro e w' ⟨rfl, ⟨nd, rfl⟩⟩; refine ⟨_, rfl, ?_⟩))
            go_roundg k2
            case measure => have := HJ2.out; have := HK2.out; omega
            case rel => exact ⟨(wrap64 (x8_2 + 1)), (by first | rfl | (simp; done) | (simp [*]; done)), H', ⟨by have := HJ2.out; have := HK2.out; omega⟩, ⟨by refine kU ?_; exact BK164.out⟩, ⟨by refine kU ?_; exact BK165.out⟩, ⟨by refine kU ?_; exact BK166.out⟩, ⟨by refine kU ?_; exact BK167.out⟩, ⟨by exact bS4 HB.out GE164.out GE165.out GE166.out GE167.out⟩⟩
           ·
            replace c69 := Bool.eq_false_iff.mpr c69
            subst c69
            have H1 : (some (([] : List Int), ([] : List Int), 5)) = some (r1, r2, r3) := by rw [if_neg (show ¬ (false = true) by decide)] at H; exact H
            clear H
            have H := H1
            clear H1
            simp only [Option.some.injEq, Prod.mk.injEq] at H
            obtain ⟨rfl, rfl, rfl⟩ := H
            have hnb74 := NB164_165.out
            have hnc74 := NB165_164.out
            have hnb75 := NB164_166.out
            have hnc75 := NB166_164.out
            have hnb76 := NB164_167.out
            have hnc76 := NB167_164.out
            have hcz77_0 : wr.cell? ⟨gb164, 0, none⟩ = some (.slice A0_0 l0_0.length c0_0) := (blk_cell BK164.out 0).trans rfl
            have hcz77_1 : wr.cell? ⟨gb164, 1, none⟩ = some (.slice A0_1 l0_1.length c0_1) := (blk_cell BK164.out 1).trans rfl
            have hfz77_0 := blk_frozen BK164.out 0
            have hfz77_1 := blk_frozen BK164.out 1
            have p171 : 0 ≤ (x8_2 : Int) := of_decide_eq_true (by first | (with_reducible assumption) | assumption)
            have q171 : x8_2 < (l0_1.length : Int) := of_decide_eq_true (by first | (with_reducible assumption) | assumption)
            obtain ⟨ad171, e171, hx171_0⟩ := Kd.at_int HR0_1.out x8_2 p171 q171
            cases e171
            replace hx171_0 := (HB.out.cell (World.block_lt_of_cell? w _ hx171_0)).trans hx171_0
            replace p171 := eq_true p171
            replace q171 := eq_true q171
            go_wp2_with (first | ((with_reducible refine gate_callee (f := 27) rfl ?_); refine goesL_ (some 60) rfl rfl Try.func27 (by kernel_rfl) rfl #[.int .i64 (rd l0_1 x8_2), .int .i64 (wrap64 (-(rd l1_0 0))), .int .i64 (wrap64 ((rd l1_0 0) - 1))] rfl lU ?_; (with_reducible refine (spec_l1In.calls (rd l0_1 x8_2) (wrap64 (-(rd l1_0 0))) (wrap64 ((rd l1_0 0) - 1)) false _ A68.out).mono ?_); rintro e w' ⟨rfl, ⟨nd, rfl⟩⟩; refine ⟨_, rfl, ?_⟩; (try (rw [drewN_self wr]; generalize hq_ : World.drewN wr _ = wr; have n0_ : Aside0 (wr.heap[gb164]? = some (.cells #[.slice A0_0 l0_0.length c0_0, .slice (some ad171) l0_1.length c0_1] 28 (0, 0))) := ⟨by rw [← hq_]; exact (kU BK164.out)⟩; have n1_ : Aside0 (wr.heap[gb165]? = some (.cells #[.slice (some ad170) l1_0.length c1_0, .slice A1_1 l1_1.length c1_1] 28 (0, 0))) := ⟨by rw [← hq_]; exact (kU BK165.out)⟩; have n2_ : Aside0 (wr.heap[gb166]? = some (.cells #[.slice none 0 0, .slice none 0 0] 28 (0, 0))) := ⟨by rw [← hq_]; exact (kU BK166.out)⟩; have n3_ : Aside0 (wr.heap[gb167]? = some (.cells #[.slice none 0 0, .slice none 0 0] 28 (0, 0))) := ⟨by rw [← hq_]; exact (kU BK167.out)⟩; have n4_ : Aside0 (Below w.heap.size w wr) := ⟨by rw [← hq_]; exact (bS4 HB.out GE164.out GE165.out GE166.out GE167.out)⟩; clear BK164 BK165 BK166 BK167 HB hq_; have BK164 := n0_; have BK165 := n1_; have BK166 := n2_; have BK167 := n3_; have HB := n4_; clear n0_ n1_ n2_ n3_ n4_)); have hnb78 := NB167_165.out; have hnc78 := NB165_167.out; have hnb79 := NB167_166.out; have hnc79 := NB166_167.out; have hcz80_0 : wr.cell? ⟨gb167, 0, none⟩ = some (.slice none 0 0) := (blk_cell BK167.out 0).trans rfl; have hcz80_1 : wr.cell? ⟨gb167, 1, none⟩ = some (.slice none 0 0) := (blk_cell BK167.out 1).trans rfl; have hfz80_0 := blk_frozen BK167.out 0; have hfz80_1 := blk_frozen BK167.out 1; have hnb81 := NB166_165.out; have hnc81 := NB165_166.out; have hcz82_0 : wr.cell? ⟨gb166, 0, none⟩ = some (.slice none 0 0) := (blk_cell BK166.out 0).trans rfl; have hcz82_1 : wr.cell? ⟨gb166, 1, none⟩ = some (.slice none 0 0) := (blk_cell BK166.out 1).trans rfl; have hfz82_0 := blk_frozen BK166.out 0; have hfz82_1 := blk_frozen BK166.out 1))
            refine bodyPost_ret (results_ct rfl _ _ gb166 28 #[.slice none 0 0, .slice none 0 0] (0, 0) _ rfl (by refine kU ?_; refine blk_put (cs := #[.slice none 0 0, .slice none 0 0]) ?_ 1 _ rfl; refine kU ?_; refine blk_put (cs := #[.slice none 0 0, .slice none 0 0]) ?_ 0 _ rfl; refine kU ?_; exact BK166.out) Try.underlying28 rfl (by kernel_rfl)) rfl ?_
            exact ⟨_, _, by first | rfl | (simp [errW_none, errW_some] <;> rfl) | (simp [*, errW_none, errW_some] <;> rfl), by first | exact Kd.R_nil _ _ _ _ _ | exact Kd.N_nil _ _ _ _ _ | exact Kd.V_nil _ _ _ _ _ | exact Kd.Q_nil _ _ _ _ _ | exact Kd.S_nil _ _ _ _ _, by first | exact Kd.R_nil _ _ _ _ _ | exact Kd.N_nil _ _ _ _ _ | exact Kd.V_nil _ _ _ _ _ | exact Kd.Q_nil _ _ _ _ _ | exact Kd.S_nil _ _ _ _ _, by exact bS4 HB.out GE164.out GE165.out GE166.out GE167.out⟩
          ·
           rw [if_neg c67] at H
           exact absurd H (by simp)
         ·
          rw [if_neg c66] at H
          have c66b0 : decide (x8_2 < (l0_1.length : Int)) = false := decide_eq_false c66
          clear c66
          obtain ⟨y173, hy173⟩ : ∃ y_ : List Int, y_ = (([] : List Int)) := ⟨_, rfl⟩
          replace H : (if y173.length + l0_0.length < 17592186044416 then ((some (y173 ++ l0_0 : List Int)).bind fun y176 => (if 1 ≤ (l1_0.length : Int) then (if y176.length + (l1_0.drop 1).length < 17592186044416 then ((some (y176 ++ (l1_0.drop 1) : List Int)).bind fun y180 => ((spec_l3Rows.f k2 l1_0 l1_1).bind fun t184 => ((spec_ShapeOk.f k2 y180).bind fun t187 => (if t187 = true then (spec_Pick.l1 k2 (rd l1_0 0) t184 0 l0_0 l0_1 y180 ([] : List Int)) else (some (([] : List Int), ([] : List Int), 6)))))) else (none)) else (none))) else (none)) = some (r1, r2, r3) := by first | (rw [hy173]; with_reducible exact H) | (have H2_ := (Option.bind_some _ _).symm.trans H; rw [hy173]; with_reducible exact H2_) | (have H2_ := (Option.bind_some _ _).symm.trans H; with_reducible exact H2_) | with_reducible exact H | (rw [hy173]; exact H) | exact H
          have Ny173 := Aside0.mk hy173
          clear hy173
          by_cases c83 : y173.length + l0_0.length < 17592186044416
          ·
           rw [if_pos c83] at H
           have LMc83 := Aside0.mk c83
           clear c83
           obtain ⟨y176, hy176⟩ : ∃ y_ : List Int, y_ = (y173 ++ l0_0) := ⟨_, rfl⟩
           replace H : (if 1 ≤ (l1_0.length : Int) then (if y176.length + (l1_0.drop 1).length < 17592186044416 then ((some (y176 ++ (l1_0.drop 1) : List Int)).bind fun y180 => ((spec_l3Rows.f k2 l1_0 l1_1).bind fun t184 => ((spec_ShapeOk.f k2 y180).bind fun t187 => (if t187 = true then (spec_Pick.l1 k2 (rd l1_0 0) t184 0 l0_0 l0_1 y180 ([] : List Int)) else (some (([] : List Int), ([] : List Int), 6)))))) else (none)) else (none)) = some (r1, r2, r3) := by first | (rw [hy176]; with_reducible exact H) | (have H2_ := (Option.bind_some _ _).symm.trans H; rw [hy176]; with_reducible exact H2_) | (have H2_ := (Option.bind_some _ _).symm.trans H; with_reducible exact H2_) | with_reducible exact H | (rw [hy176]; exact H) | exact H
           have Ny176 := Aside0.mk hy176
           clear hy176
           by_cases c84 : 1 ≤ (l1_0.length : Int)
           ·
            rw [if_pos c84] at H
            have c84b0 := eq_true c84
            have c84b1 : decide (1 ≤ (l1_0.length : Int)) = true := decide_eq_true c84
            clear c84
            by_cases c85 : y176.length + (l1_0.drop 1).length < 17592186044416
            ·
             rw [if_pos c85] at H
             have LMc85 := Aside0.mk c85
             clear c85
             obtain ⟨y180, hy180⟩ : ∃ y_ : List Int, y_ = (y176 ++ (l1_0.drop 1)) := ⟨_, rfl⟩
             replace H : ((spec_l3Rows.f k2 l1_0 l1_1).bind fun t184 => ((spec_ShapeOk.f k2 y180).bind fun t187 => (if t187 = true then (spec_Pick.l1 k2 (rd l1_0 0) t184 0 l0_0 l0_1 y180 ([] : List Int)) else (some (([] : List Int), ([] : List Int), 6))))) = some (r1, r2, r3) := by first | (rw [hy180]; with_reducible exact H) | (have H2_ := (Option.bind_some _ _).symm.trans H; rw [hy180]; with_reducible exact H2_) | (have H2_ := (Option.bind_some _ _).symm.trans H; with_reducible exact H2_) | with_reducible exact H | (rw [hy180]; exact H) | exact H
             have Ny180 := Aside0.mk hy180
             clear hy180
             replace H := Option.bind_eq_some_iff.mp H
             obtain ⟨t184, A860, H⟩ := H
             replace H : ((spec_ShapeOk.f k2 y180).bind fun t187 => (if t187 = true then (spec_Pick.l1 k2 (rd l1_0 0) t184 0 l0_0 l0_1 y180 ([] : List Int)) else (some (([] : List Int), ([] : List Int), 6)))) = some (r1, r2, r3) := H
             have A86 := Aside0.mk A860
             clear A860
             replace H := Option.bind_eq_some_iff.mp H
             obtain ⟨t187, A870, H⟩ := H
             replace H : (if t187 = true then (spec_Pick.l1 k2 (rd l1_0 0) t184 0 l0_0 l0_1 y180 ([] : List Int)) else (some (([] : List Int), ([] : List Int), 6))) = some (r1, r2, r3) := H
             have A87 := Aside0.mk A870
             clear A870
             by_cases c88 : t187 = true
             ·
              subst c88
              have H1 : (spec_Pick.l1 k2 (rd l1_0 0) t184 0 l0_0 l0_1 y180 ([] : List Int)) = some (r1, r2, r3) := by rw [if_pos rfl] at H; exact H
              clear H
              have H := H1
              clear H1
              have H' := Aside0.mk H
              clear H
              have hnb89 := NB164_165.out
              have hnc89 := NB165_164.out
              have hnb90 := NB164_166.out
              have hnc90 := NB166_164.out
              have hnb91 := NB164_167.out
              have hnc91 := NB167_164.out
              have hcz92_0 : wr.cell? ⟨gb164, 0, none⟩ = some (.slice A0_0 l0_0.length c0_0) := (blk_cell BK164.out 0).trans rfl
              have hcz92_1 : wr.cell? ⟨gb164, 1, none⟩ = some (.slice A0_1 l0_1.length c0_1) := (blk_cell BK164.out 1).trans rfl
              have hfz92_0 := blk_frozen BK164.out 0
              have hfz92_1 := blk_frozen BK164.out 1
              try go_wp2
              replace BK164 := Aside0.mk (blk_drew BK164.out)
              replace BK165 := Aside0.mk (blk_drew BK165.out)
              replace BK166 := Aside0.mk (blk_drew BK166.out)
              replace BK167 := Aside0.mk (blk_drew BK167.out)
              replace HB := Aside0.mk (below_drew1 HB.out)
              obtain ⟨i094, hi094, _, hsz94, _⟩ := info_parts info3
              obtain ⟨A94, hcut94, hA94, hC94⟩ := print_drop_of (P := Try.prog) (Value.int .i64) 0 22 3 .i64 Try.underlying22 hi094 hsz94 (some ad170) c1_0 l1_0 1 (by omega) (of_decide_eq_true (by first | (with_reducible assumption) | assumption)) HC1_0.out
              have HR179 := Aside0.mk (Kd.C_of_reads (h1 := fun _ => rfl) (hA94 _ (Kd.reads_of_C HR1_0.out)))
              have HC179 := Aside0.mk hC94
              clear hA94 hC94 hi094 hsz94
              refine start_ (n := 11) (S := fun w' => w'.cell? ⟨gb164, 0, none⟩ = some (.slice A0_0 l0_0.length c0_0) ∧ w'.cell? ⟨gb164, 1, none⟩ = some (.slice A0_1 l0_1.length c0_1) ∧ w'.cell? ⟨gb165, 0, none⟩ = some (.slice (some ad170) l1_0.length c1_0) ∧ w'.cell? ⟨gb165, 1, none⟩ = some (.slice A1_1 l1_1.length c1_1)) (ds := []) #[false, false, false, false, false, false, false, false, false, false, false] (by kernel_rfl) rfl rfl ⟨(blk_cell BK164.out 0).trans rfl, (blk_cell BK164.out 1).trans rfl, (blk_cell BK165.out 0).trans rfl, (blk_cell BK165.out 1).trans rfl⟩ (fun hHeld => ?_); refine with_tabW spec_Pick.tab12 spec_Pick.bits12 (fun HT_ HW_ => ?_)
              generalize wr.drew = w93 at BK164 BK165 BK166 BK167 HB HR179 hHeld ⊢
              refine pure_ (i := 1) (N := some 64) (v := ?_) (a' := ?_) #[false, true, false, false, false, false, false, false, false, false, false] rfl rfl (any_of HT_.out (by kernel_rfl)) (fun _ _ _ h => h) (Or.inl ⟨by rfl, ?_⟩) ?_ ?_
              rotate_left
              ·
               intro w'
               go_simp
               with_reducible rfl
              rotate_left
              ·
               simp only [Act.put, List.setIfInBounds_toArray, List.set_cons_zero, List.set_cons_succ, i64_w, i32_w]
               rfl
              refine pure_ (i := 4) (N := some 67) (v := ?_) (a' := ?_) #[false, true, false, false, true, false, false, false, false, false, false] rfl rfl (any_of HT_.out (by kernel_rfl)) (fun _ _ _ h => h) (Or.inl ⟨by rfl, ?_⟩) ?_ ?_
              rotate_left
              ·
               intro w'
               go_simp
               with_reducible rfl
              rotate_left
              ·
               simp only [Act.put, List.setIfInBounds_toArray, List.set_cons_zero, List.set_cons_succ, i64_w, i32_w]
               rfl
              refine take_ (i := 2) (N := some 65) (v := ?_) (a' := ?_) #[false, true, true, false, true, false, false, false, false, false, false] rfl rfl (take_ofW HT_.out HW_.out (by kernel_rfl)) (fun _ _ _ h => h) (Or.inl ⟨by rfl, ?_⟩) hHeld ?_ ?_
              rotate_left
              ·
               rintro w' ⟨s0, s1, s2, s3⟩
               go_simp
               with_reducible rfl
              rotate_left
              ·
               simp only [Act.put, List.setIfInBounds_toArray, List.set_cons_zero, List.set_cons_succ, i64_w, i32_w]
               rfl
              refine take_ (i := 5) (N := some 68) (v := ?_) (a' := ?_) #[false, true, true, false, true, true, false, false, false, false, false] rfl rfl (take_ofW HT_.out HW_.out (by kernel_rfl)) (fun _ _ _ h => h) (Or.inl ⟨by rfl, ?_⟩) hHeld ?_ ?_
              rotate_left
              ·
               rintro w' ⟨s0, s1, s2, s3⟩
               go_simp
               with_reducible rfl
              rotate_left
              ·
               simp only [Act.put, List.setIfInBounds_toArray, List.set_cons_zero, List.set_cons_succ, i64_w, i32_w]
               rfl
              refine pure_ (i := 6) (N := some 69) (v := ?_) (a' := ?_) #[false, true, true, false, true, true, true, false, false, false, false] rfl rfl (any_of HT_.out (by kernel_rfl)) (fun _ _ _ h => h) (Or.inl ⟨by rfl, ?_⟩) ?_ ?_
              rotate_left
              ·
               intro w'
               go_simp
               with_reducible rfl
              rotate_left
              ·
               simp only [Act.put, List.setIfInBounds_toArray, List.set_cons_zero, List.set_cons_succ, i64_w, i32_w]
               rfl
              refine join_ (σ := Value × Value × Value × Nat) 1 #[true, true, true, true, true, true, true, true, true, true, false] (fun s_ => [(63, s_.1), (66, s_.2.1), (70, s_.2.2.1), (9, .pointer (some ⟨s_.2.2.2, 0, none⟩)), (71, .agg #[s_.2.2.1, .slice none 0 0])]) (fun s_ w' => (w'.cell? ⟨gb164, 0, none⟩ = some (.slice A0_0 l0_0.length c0_0) ∧ w'.cell? ⟨gb164, 1, none⟩ = some (.slice A0_1 l0_1.length c0_1) ∧ w'.cell? ⟨gb165, 0, none⟩ = some (.slice (some ad170) l1_0.length c1_0) ∧ w'.cell? ⟨gb165, 1, none⟩ = some (.slice A1_1 l1_1.length c1_1)) ∧ (Kd.R (Kd.int .i64) 3 w' w.heap.size (fun _ => True) s_.2.2.1 y180) ∧ (w'.heap[gb164]? = some (.cells #[.slice A0_0 l0_0.length c0_0, .slice A0_1 l0_1.length c0_1] 28 (0, 0))) ∧ (w'.heap[gb165]? = some (.cells #[.slice (some ad170) l1_0.length c1_0, .slice A1_1 l1_1.length c1_1] 28 (0, 0))) ∧ (w'.heap[gb166]? = some (.cells #[.slice none 0 0, .slice none 0 0] 28 (0, 0))) ∧ (w'.heap[gb167]? = some (.cells #[.slice none 0 0, .slice none 0 0] 28 (0, 0))) ∧ (w'.heap[s_.2.2.2]? = some (.cells #[.slice none 0 0, .slice none 0 0] 28 (0, 0))) ∧ (w.heap.size ≤ s_.2.2.2) ∧ (w.heap.size ≤ s_.2.2.2) ∧ (gb164 ≠ s_.2.2.2) ∧ (s_.2.2.2 ≠ gb164) ∧ (gb165 ≠ s_.2.2.2) ∧ (s_.2.2.2 ≠ gb165) ∧ (gb166 ≠ s_.2.2.2) ∧ (s_.2.2.2 ≠ gb166) ∧ (gb167 ≠ s_.2.2.2) ∧ (s_.2.2.2 ≠ gb167) ∧ (Below w.heap.size w w')) ?_ ?_
              rotate_left
              ·
               intro hCont
               refine two_ (i := 0) (j := 9) (Ni := some 63) (Nj := some 9) #[true, true, true, false, true, true, true, false, false, false, false] #[false, true, true, false, true, true, true, false, false, true, false] rfl rfl rfl rfl (two_of HT_.out (by kernel_rfl)) (by decide) (by decide) (fun K hK => ?_) (fun K hK => ?_)
               ·
                skip
                refine Kd.R_lit_step (Kd.int .i64) _ 3 ?hg (N := 63) ?hd (xs := ([] : List Int)) (inner := []) (ok := fun _ => True) (okp := fun _ => True) ?hr ?hp (fun _ hk => hk) trivial (Below.refl _ _) (Nat.le_refl _) (by simp) ?_; (case hd => rfl); (case hg => rfl); (case hr => first | (go_simp; done) | (go_simp; rfl)); (case hp => exact (Reps.none _ _))
                intro v174 w95 ho96 hb hg_ hnew_
                clear hg_ hnew_
                (first | rw [← Ny173.out] at ho96 | (simp only [Int.reduceToNat] at ho96; rw [← Ny173.out] at ho96))
                have HO175 := Aside0.mk (Kd.R_lower ho96 (below_size (bS4 HB.out GE164.out GE165.out GE166.out GE167.out)))
                replace BK164 := Aside0.mk (kB BK164.out hb)
                replace BK165 := Aside0.mk (kB BK165.out hb)
                replace BK166 := Aside0.mk (kB BK166.out hb)
                replace BK167 := Aside0.mk (kB BK167.out hb)
                replace HB := Aside0.mk (below_step (bS4 HB.out GE164.out GE165.out GE166.out GE167.out) hb)
                clear hb ho96
                refine hK.out _ _ ⟨(blk_cell BK164.out 0).trans rfl, (blk_cell BK164.out 1).trans rfl, (blk_cell BK165.out 0).trans rfl, (blk_cell BK165.out 1).trans rfl⟩ (fun hHeld => ?_)
                clear hK K
                refine norm_ (a' := ?_) ?_ ?_
                rotate_left
                ·
                 show Act.put _ (some 63) _ = _
                 simp only [Act.put, List.setIfInBounds_toArray, List.set_cons_zero, List.set_cons_succ, i64_w, i32_w]
                 rfl
                refine two_ (i := 3) (j := 9) (Ni := some 66) (Nj := some 9) #[true, true, true, true, true, true, true, false, false, false, false] #[true, true, true, false, true, true, true, false, false, true, false] rfl rfl rfl rfl (two_of HT_.out (by kernel_rfl)) (by decide) (by decide) (fun K hK => ?_) (fun K hK => ?_)
                ·
                 skip
                 refine Kd.R_append_rows_step (Kd.int .i64) (w0 := w) w.heap.size (by rfl) (.tmp 63) (.tmp 65) 22 3 (.int .i64 0) 8 rfl Try.underlying22 info3 rfl (by decide) (by omega) v174 y173 l0_0 _ _ _ (fun _ => True) (fun _ => False) rfl rfl ?aO ?aR (fun _ _ h => h) (fun _ h => h.elim) ?aF ?aB ?aS ?aL ?_
                 (case aR => exact cU (Kd.C_below HR0_0.out HB.out))
                 (case aB => exact (bS4 HB.out GE164.out GE165.out GE166.out GE167.out))
                 (case aF => exact (fun _ _ => trivial))
                 (case aO => exact (RU HO175.out))
                 (case aS => exact (below_size (bS4 HB.out GE164.out GE165.out GE166.out GE167.out)))
                 (case aL => have := LMc83.out; omega)
                 intro v177 w97 ho hb hg hat
                 rw [← Ny176.out] at ho
                 have n0_ := Aside0.mk (blk_grown (g := gb164) (o := .cells #[.slice A0_0 l0_0.length c0_0, .slice A0_1 l0_1.length c0_1] 28 (0, 0)) (kU BK164.out) hg (Kd.R_ne HO175.out BK164.out (by decide)))
                 have n1_ := Aside0.mk (blk_grown (g := gb165) (o := .cells #[.slice (some ad170) l1_0.length c1_0, .slice A1_1 l1_1.length c1_1] 28 (0, 0)) (kU BK165.out) hg (Kd.R_ne HO175.out BK165.out (by decide)))
                 have n2_ := Aside0.mk (blk_grown (g := gb166) (o := .cells #[.slice none 0 0, .slice none 0 0] 28 (0, 0)) (kU BK166.out) hg (Kd.R_ne HO175.out BK166.out (by decide)))
                 have n3_ := Aside0.mk (blk_grown (g := gb167) (o := .cells #[.slice none 0 0, .slice none 0 0] 28 (0, 0)) (kU BK167.out) hg (Kd.R_ne HO175.out BK167.out (by decide)))
                 have n4_ := Aside0.mk (hb)
                 have n5_ := Aside0.mk (ho)
                 clear BK164 BK165 BK166 BK167 HB HO175
                 have BK164 := n0_
                 have BK165 := n1_
                 have BK166 := n2_
                 have BK167 := n3_
                 have HB := n4_
                 have HO178 := n5_
                 clear n0_ n1_ n2_ n3_ n4_ n5_
                 clear ho hb hg hat
                 refine hK.out _ _ ⟨(blk_cell BK164.out 0).trans rfl, (blk_cell BK164.out 1).trans rfl, (blk_cell BK165.out 0).trans rfl, (blk_cell BK165.out 1).trans rfl⟩ (fun hHeld => ?_)
                 clear hK K
                 refine norm_ (a' := ?_) ?_ ?_
                 rotate_left
                 ·
                  show Act.put _ (some 66) _ = _
                  simp only [Act.put, List.setIfInBounds_toArray, List.set_cons_zero, List.set_cons_succ, i64_w, i32_w]
                  rfl
                 refine two_ (i := 7) (j := 9) (Ni := some 70) (Nj := some 9) #[true, true, true, true, true, true, true, true, false, false, false] #[true, true, true, true, true, true, true, false, false, true, false] rfl rfl rfl rfl (two_of HT_.out (by kernel_rfl)) (by decide) (by decide) (fun K hK => ?_) (fun K hK => ?_)
                 ·
                  skip
                  refine Kd.R_append_rows_step (Kd.int .i64) (w0 := w) w.heap.size (by rfl) (.tmp 66) (.tmp 69) 22 3 (.int .i64 0) 8 rfl Try.underlying22 info3 rfl (by decide) (by omega) v177 y176 (l1_0.drop 1) _ _ _ (fun _ => True) (fun _ => False) rfl rfl ?aO ?aR (fun _ _ h => h) (fun _ h => h.elim) ?aF ?aB ?aS ?aL ?_
                  (case aR => first | (rw [← show (l1_0.drop 1).length = (l1_0.length - 1) from List.length_drop]; exact cU (Kd.C_below HR179.out HB.out)) | (exact cU (Kd.C_below HR179.out HB.out)))
                  (case aB => exact (bS4 HB.out GE164.out GE165.out GE166.out GE167.out))
                  (case aF => exact (fun _ _ => trivial))
                  (case aO => exact (RU HO178.out))
                  (case aS => exact (below_size (bS4 HB.out GE164.out GE165.out GE166.out GE167.out)))
                  (case aL => have := LMc85.out; have hlx_ := (show (l1_0.drop 1).length = (l1_0.length - 1) from List.length_drop); omega)
                  intro v181 w98 ho hb hg hat
                  rw [← Ny180.out] at ho
                  have n0_ := Aside0.mk (blk_grown (g := gb164) (o := .cells #[.slice A0_0 l0_0.length c0_0, .slice A0_1 l0_1.length c0_1] 28 (0, 0)) (kU BK164.out) hg (Kd.R_ne HO178.out BK164.out (by decide)))
                  have n1_ := Aside0.mk (blk_grown (g := gb165) (o := .cells #[.slice (some ad170) l1_0.length c1_0, .slice A1_1 l1_1.length c1_1] 28 (0, 0)) (kU BK165.out) hg (Kd.R_ne HO178.out BK165.out (by decide)))
                  have n2_ := Aside0.mk (blk_grown (g := gb166) (o := .cells #[.slice none 0 0, .slice none 0 0] 28 (0, 0)) (kU BK166.out) hg (Kd.R_ne HO178.out BK166.out (by decide)))
                  have n3_ := Aside0.mk (blk_grown (g := gb167) (o := .cells #[.slice none 0 0, .slice none 0 0] 28 (0, 0)) (kU BK167.out) hg (Kd.R_ne HO178.out BK167.out (by decide)))
                  have n4_ := Aside0.mk (hb)
                  have n5_ := Aside0.mk (ho)
                  clear BK164 BK165 BK166 BK167 HB HO178
                  have BK164 := n0_
                  have BK165 := n1_
                  have BK166 := n2_
                  have BK167 := n3_
                  have HB := n4_
                  have HO182 := n5_
                  clear n0_ n1_ n2_ n3_ n4_ n5_
                  clear ho hb hg hat
                  obtain ⟨Ao99, co99, eo99⟩ := Kd.R_slice HO182.out
                  (first | subst eo99 | (injection eo99 with f1_ f2_ f3_; have f4_ := f1_.symm; have f5_ := f3_.symm; clear f1_ f2_ f3_; subst f4_; subst f5_))
                  refine hK.out _ _ ⟨(blk_cell BK164.out 0).trans rfl, (blk_cell BK164.out 1).trans rfl, (blk_cell BK165.out 0).trans rfl, (blk_cell BK165.out 1).trans rfl⟩ (fun hHeld => ?_)
                  clear hK K
                  refine norm_ (a' := ?_) ?_ ?_
                  rotate_left
                  ·
                   show Act.put _ (some 70) _ = _
                   simp only [Act.put, List.setIfInBounds_toArray, List.set_cons_zero, List.set_cons_succ, i64_w, i32_w]
                   rfl
                  refine pure_ (i := 8) (N := some 71) (v := ?_) (a' := ?_) #[true, true, true, true, true, true, true, true, true, false, false] rfl rfl (any_of HT_.out (by kernel_rfl)) (fun _ _ _ h => h) (Or.inl ⟨by rfl, ?_⟩) ?_ ?_
                  rotate_left
                  ·
                   intro w'
                   go_simp
                   with_reducible rfl
                  rotate_left
                  ·
                   simp only [Act.put, List.setIfInBounds_toArray, List.set_cons_zero, List.set_cons_succ, i64_w, i32_w]
                   rfl
                  refine one_ (i := 9) (N := some 9) #[true, true, true, true, true, true, true, true, true, true, false] rfl rfl (one_of HT_.out (by kernel_rfl)) (by decide) (fun K hK => ?_)
                  refine box_step ?hg (N := 9) ?hd (cs := #[.slice none 0 0, .slice none 0 0]) (t := 28) ?hr ?_; (case hd => rfl); (case hg => rfl); (case hr => first | (go_simp; done) | (go_simp; rfl))
                  intro gb183 hg w100 hbox hb
                  replace HO182 := Aside0.mk (Kd.R_below (RU HO182.out) hb)
                  have BK183 := Aside0.mk (hbox)
                  have GW183 := Aside0.mk ((by rw [hg]; exact (below_size (bS4 HB.out GE164.out GE165.out GE166.out GE167.out)) : w.heap.size ≤ gb183))
                  have GE183 := Aside0.mk ((by rw [hg]; exact (below_size (bS4 HB.out GE164.out GE165.out GE166.out GE167.out)) : w.heap.size ≤ gb183))
                  replace HB := Aside0.mk (below_step (bS4 HB.out GE164.out GE165.out GE166.out GE167.out) hb)
                  have NB164_183 := Aside0.mk (kN BK164.out hg)
                  have NB183_164 := Aside0.mk (kM BK164.out hg)
                  replace BK164 := Aside0.mk (kB BK164.out hb)
                  have NB165_183 := Aside0.mk (kN BK165.out hg)
                  have NB183_165 := Aside0.mk (kM BK165.out hg)
                  replace BK165 := Aside0.mk (kB BK165.out hb)
                  have NB166_183 := Aside0.mk (kN BK166.out hg)
                  have NB183_166 := Aside0.mk (kM BK166.out hg)
                  replace BK166 := Aside0.mk (kB BK166.out hb)
                  have NB167_183 := Aside0.mk (kN BK167.out hg)
                  have NB183_167 := Aside0.mk (kM BK167.out hg)
                  replace BK167 := Aside0.mk (kB BK167.out hb)
                  clear hb hbox hg
                  refine hK.out _ _ ⟨(blk_cell BK164.out 0).trans rfl, (blk_cell BK164.out 1).trans rfl, (blk_cell BK165.out 0).trans rfl, (blk_cell BK165.out 1).trans rfl⟩ (fun hHeld => ?_)
                  clear hK K
                  refine norm_ (a' := ?_) ?_ ?_
                  rotate_left
                  ·
                   show Act.put _ (some 9) _ = _
                   simp only [Act.put, List.setIfInBounds_toArray, List.set_cons_zero, List.set_cons_succ, i64_w, i32_w]
                   rfl
                  exact norm_ (by simp only [putAll, Act.put, List.setIfInBounds_toArray, List.set_cons_zero, List.set_cons_succ]) (hCont (v174, v177, .slice Ao99 y180.length co99, gb183) _ ⟨hHeld, (RU HO182.out), (kU BK164.out), (kU BK165.out), (kU BK166.out), (kU BK167.out), (kU BK183.out), GW183.out, GE183.out, NB164_183.out, NB183_164.out, NB165_183.out, NB183_165.out, NB166_183.out, NB183_166.out, NB167_183.out, NB183_167.out, (bS5 HB.out GE164.out GE165.out GE166.out GE167.out GE183.out)⟩)
                 ·
                  skip
                  refine box_step ?hg (N := 9) ?hd (cs := #[.slice none 0 0, .slice none 0 0]) (t := 28) ?hr ?_; (case hd => rfl); (case hg => rfl); (case hr => first | (go_simp; done) | (go_simp; rfl))
                  intro gb183 hg w98 hbox hb
                  replace HO178 := Aside0.mk (Kd.R_below (RU HO178.out) hb)
                  have BK183 := Aside0.mk (hbox)
                  have GW183 := Aside0.mk ((by rw [hg]; exact (below_size (bS4 HB.out GE164.out GE165.out GE166.out GE167.out)) : w.heap.size ≤ gb183))
                  have GE183 := Aside0.mk ((by rw [hg]; exact (below_size (bS4 HB.out GE164.out GE165.out GE166.out GE167.out)) : w.heap.size ≤ gb183))
                  replace HB := Aside0.mk (below_step (bS4 HB.out GE164.out GE165.out GE166.out GE167.out) hb)
                  have NB164_183 := Aside0.mk (kN BK164.out hg)
                  have NB183_164 := Aside0.mk (kM BK164.out hg)
                  replace BK164 := Aside0.mk (kB BK164.out hb)
                  have NB165_183 := Aside0.mk (kN BK165.out hg)
                  have NB183_165 := Aside0.mk (kM BK165.out hg)
                  replace BK165 := Aside0.mk (kB BK165.out hb)
                  have NB166_183 := Aside0.mk (kN BK166.out hg)
                  have NB183_166 := Aside0.mk (kM BK166.out hg)
                  replace BK166 := Aside0.mk (kB BK166.out hb)
                  have NB167_183 := Aside0.mk (kN BK167.out hg)
                  have NB183_167 := Aside0.mk (kM BK167.out hg)
                  replace BK167 := Aside0.mk (kB BK167.out hb)
                  clear hb hbox hg
                  refine hK.out _ _ ⟨(blk_cell BK164.out 0).trans rfl, (blk_cell BK164.out 1).trans rfl, (blk_cell BK165.out 0).trans rfl, (blk_cell BK165.out 1).trans rfl⟩ (fun hHeld => ?_)
                  clear hK K
                  refine norm_ (a' := ?_) ?_ ?_
                  rotate_left
                  ·
                   show Act.put _ (some 9) _ = _
                   simp only [Act.put, List.setIfInBounds_toArray, List.set_cons_zero, List.set_cons_succ, i64_w, i32_w]
                   rfl
                  refine one_ (i := 7) (N := some 70) #[true, true, true, true, true, true, true, true, false, true, false] rfl rfl (one_of HT_.out (by kernel_rfl)) (by decide) (fun K hK => ?_)
                  refine Kd.R_append_rows_step (Kd.int .i64) (w0 := w) w.heap.size (by rfl) (.tmp 66) (.tmp 69) 22 3 (.int .i64 0) 8 rfl Try.underlying22 info3 rfl (by decide) (by omega) v177 y176 (l1_0.drop 1) _ _ _ (fun _ => True) (fun _ => False) rfl rfl ?aO ?aR (fun _ _ h => h) (fun _ h => h.elim) ?aF ?aB ?aS ?aL ?_
                  (case aR => first | (rw [← show (l1_0.drop 1).length = (l1_0.length - 1) from List.length_drop]; exact cU (Kd.C_below HR179.out HB.out)) | (exact cU (Kd.C_below HR179.out HB.out)))
                  (case aB => exact (bS5 HB.out GE164.out GE165.out GE166.out GE167.out GE183.out))
                  (case aF => exact (fun _ _ => trivial))
                  (case aO => exact (RU HO178.out))
                  (case aS => exact (below_size (bS5 HB.out GE164.out GE165.out GE166.out GE167.out GE183.out)))
                  (case aL => have := LMc85.out; have hlx_ := (show (l1_0.drop 1).length = (l1_0.length - 1) from List.length_drop); omega)
                  intro v181 w99 ho hb hg hat
                  rw [← Ny180.out] at ho
                  have n0_ := Aside0.mk (blk_grown (g := gb164) (o := .cells #[.slice A0_0 l0_0.length c0_0, .slice A0_1 l0_1.length c0_1] 28 (0, 0)) (kU BK164.out) hg (Kd.R_ne HO178.out BK164.out (by decide)))
                  have n1_ := Aside0.mk (blk_grown (g := gb165) (o := .cells #[.slice (some ad170) l1_0.length c1_0, .slice A1_1 l1_1.length c1_1] 28 (0, 0)) (kU BK165.out) hg (Kd.R_ne HO178.out BK165.out (by decide)))
                  have n2_ := Aside0.mk (blk_grown (g := gb166) (o := .cells #[.slice none 0 0, .slice none 0 0] 28 (0, 0)) (kU BK166.out) hg (Kd.R_ne HO178.out BK166.out (by decide)))
                  have n3_ := Aside0.mk (blk_grown (g := gb167) (o := .cells #[.slice none 0 0, .slice none 0 0] 28 (0, 0)) (kU BK167.out) hg (Kd.R_ne HO178.out BK167.out (by decide)))
                  have n4_ := Aside0.mk (blk_grown (g := gb183) (o := .cells #[.slice none 0 0, .slice none 0 0] 28 (0, 0)) (kU BK183.out) hg (Kd.R_ne HO178.out BK183.out (by decide)))
                  have n5_ := Aside0.mk (hb)
                  have n6_ := Aside0.mk (ho)
                  clear BK164 BK165 BK166 BK167 BK183 HB HO178
                  have BK164 := n0_
                  have BK165 := n1_
                  have BK166 := n2_
                  have BK167 := n3_
                  have BK183 := n4_
                  have HB := n5_
                  have HO182 := n6_
                  clear n0_ n1_ n2_ n3_ n4_ n5_ n6_
                  clear ho hb hg hat
                  obtain ⟨Ao100, co100, eo100⟩ := Kd.R_slice HO182.out
                  (first | subst eo100 | (injection eo100 with f1_ f2_ f3_; have f4_ := f1_.symm; have f5_ := f3_.symm; clear f1_ f2_ f3_; subst f4_; subst f5_))
                  refine hK.out _ _ ⟨(blk_cell BK164.out 0).trans rfl, (blk_cell BK164.out 1).trans rfl, (blk_cell BK165.out 0).trans rfl, (blk_cell BK165.out 1).trans rfl⟩ (fun hHeld => ?_)
                  clear hK K
                  refine norm_ (a' := ?_) ?_ ?_
                  rotate_left
                  ·
                   show Act.put _ (some 70) _ = _
                   simp only [Act.put, List.setIfInBounds_toArray, List.set_cons_zero, List.set_cons_succ, i64_w, i32_w]
                   rfl
                  refine pure_ (i := 8) (N := some 71) (v := ?_) (a' := ?_) #[true, true, true, true, true, true, true, true, true, true, false] rfl rfl (any_of HT_.out (by kernel_rfl)) (fun _ _ _ h => h) (Or.inl ⟨by rfl, ?_⟩) ?_ ?_
                  rotate_left
                  ·
                   intro w'
                   go_simp
                   with_reducible rfl
                  rotate_left
                  ·
                   simp only [Act.put, List.setIfInBounds_toArray, List.set_cons_zero, List.set_cons_succ, i64_w, i32_w]
                   rfl
                  exact norm_ (by simp only [putAll, Act.put, List.setIfInBounds_toArray, List.set_cons_zero, List.set_cons_succ]) (hCont (v174, v177, .slice Ao100 y180.length co100, gb183) _ ⟨hHeld, (RU HO182.out), (kU BK164.out), (kU BK165.out), (kU BK166.out), (kU BK167.out), (kU BK183.out), GW183.out, GE183.out, NB164_183.out, NB183_164.out, NB165_183.out, NB183_165.out, NB166_183.out, NB183_166.out, NB167_183.out, NB183_167.out, (bS5 HB.out GE164.out GE165.out GE166.out GE167.out GE183.out)⟩)
                ·
                 skip
                 refine box_step ?hg (N := 9) ?hd (cs := #[.slice none 0 0, .slice none 0 0]) (t := 28) ?hr ?_; (case hd => rfl); (case hg => rfl); (case hr => first | (go_simp; done) | (go_simp; rfl))
                 intro gb183 hg w97 hbox hb
                 replace HO175 := Aside0.mk (Kd.R_below (RU HO175.out) hb)
                 have BK183 := Aside0.mk (hbox)
                 have GW183 := Aside0.mk ((by rw [hg]; exact (below_size (bS4 HB.out GE164.out GE165.out GE166.out GE167.out)) : w.heap.size ≤ gb183))
                 have GE183 := Aside0.mk ((by rw [hg]; exact (below_size (bS4 HB.out GE164.out GE165.out GE166.out GE167.out)) : w.heap.size ≤ gb183))
                 replace HB := Aside0.mk (below_step (bS4 HB.out GE164.out GE165.out GE166.out GE167.out) hb)
                 have NB164_183 := Aside0.mk (kN BK164.out hg)
                 have NB183_164 := Aside0.mk (kM BK164.out hg)
                 replace BK164 := Aside0.mk (kB BK164.out hb)
                 have NB165_183 := Aside0.mk (kN BK165.out hg)
                 have NB183_165 := Aside0.mk (kM BK165.out hg)
                 replace BK165 := Aside0.mk (kB BK165.out hb)
                 have NB166_183 := Aside0.mk (kN BK166.out hg)
                 have NB183_166 := Aside0.mk (kM BK166.out hg)
                 replace BK166 := Aside0.mk (kB BK166.out hb)
                 have NB167_183 := Aside0.mk (kN BK167.out hg)
                 have NB183_167 := Aside0.mk (kM BK167.out hg)
                 replace BK167 := Aside0.mk (kB BK167.out hb)
                 clear hb hbox hg
                 refine hK.out _ _ ⟨(blk_cell BK164.out 0).trans rfl, (blk_cell BK164.out 1).trans rfl, (blk_cell BK165.out 0).trans rfl, (blk_cell BK165.out 1).trans rfl⟩ (fun hHeld => ?_)
                 clear hK K
                 refine norm_ (a' := ?_) ?_ ?_
                 rotate_left
                 ·
                  show Act.put _ (some 9) _ = _
                  simp only [Act.put, List.setIfInBounds_toArray, List.set_cons_zero, List.set_cons_succ, i64_w, i32_w]
                  rfl
                 refine one_ (i := 3) (N := some 66) #[true, true, true, true, true, true, true, false, false, true, false] rfl rfl (one_of HT_.out (by kernel_rfl)) (by decide) (fun K hK => ?_)
                 refine Kd.R_append_rows_step (Kd.int .i64) (w0 := w) w.heap.size (by rfl) (.tmp 63) (.tmp 65) 22 3 (.int .i64 0) 8 rfl Try.underlying22 info3 rfl (by decide) (by omega) v174 y173 l0_0 _ _ _ (fun _ => True) (fun _ => False) rfl rfl ?aO ?aR (fun _ _ h => h) (fun _ h => h.elim) ?aF ?aB ?aS ?aL ?_
                 (case aR => exact cU (Kd.C_below HR0_0.out HB.out))
                 (case aB => exact (bS5 HB.out GE164.out GE165.out GE166.out GE167.out GE183.out))
                 (case aF => exact (fun _ _ => trivial))
                 (case aO => exact (RU HO175.out))
                 (case aS => exact (below_size (bS5 HB.out GE164.out GE165.out GE166.out GE167.out GE183.out)))
                 (case aL => have := LMc83.out; omega)
                 intro v177 w98 ho hb hg hat
                 rw [← Ny176.out] at ho
                 have n0_ := Aside0.mk (blk_grown (g := gb164) (o := .cells #[.slice A0_0 l0_0.length c0_0, .slice A0_1 l0_1.length c0_1] 28 (0, 0)) (kU BK164.out) hg (Kd.R_ne HO175.out BK164.out (by decide)))
                 have n1_ := Aside0.mk (blk_grown (g := gb165) (o := .cells #[.slice (some ad170) l1_0.length c1_0, .slice A1_1 l1_1.length c1_1] 28 (0, 0)) (kU BK165.out) hg (Kd.R_ne HO175.out BK165.out (by decide)))
                 have n2_ := Aside0.mk (blk_grown (g := gb166) (o := .cells #[.slice none 0 0, .slice none 0 0] 28 (0, 0)) (kU BK166.out) hg (Kd.R_ne HO175.out BK166.out (by decide)))
                 have n3_ := Aside0.mk (blk_grown (g := gb167) (o := .cells #[.slice none 0 0, .slice none 0 0] 28 (0, 0)) (kU BK167.out) hg (Kd.R_ne HO175.out BK167.out (by decide)))
                 have n4_ := Aside0.mk (blk_grown (g := gb183) (o := .cells #[.slice none 0 0, .slice none 0 0] 28 (0, 0)) (kU BK183.out) hg (Kd.R_ne HO175.out BK183.out (by decide)))
                 have n5_ := Aside0.mk (hb)
                 have n6_ := Aside0.mk (ho)
                 clear BK164 BK165 BK166 BK167 BK183 HB HO175
                 have BK164 := n0_
                 have BK165 := n1_
                 have BK166 := n2_
                 have BK167 := n3_
                 have BK183 := n4_
                 have HB := n5_
                 have HO178 := n6_
                 clear n0_ n1_ n2_ n3_ n4_ n5_ n6_
                 clear ho hb hg hat
                 refine hK.out _ _ ⟨(blk_cell BK164.out 0).trans rfl, (blk_cell BK164.out 1).trans rfl, (blk_cell BK165.out 0).trans rfl, (blk_cell BK165.out 1).trans rfl⟩ (fun hHeld => ?_)
                 clear hK K
                 refine norm_ (a' := ?_) ?_ ?_
                 rotate_left
                 ·
                  show Act.put _ (some 66) _ = _
                  simp only [Act.put, List.setIfInBounds_toArray, List.set_cons_zero, List.set_cons_succ, i64_w, i32_w]
                  rfl
                 refine one_ (i := 7) (N := some 70) #[true, true, true, true, true, true, true, true, false, true, false] rfl rfl (one_of HT_.out (by kernel_rfl)) (by decide) (fun K hK => ?_)
                 refine Kd.R_append_rows_step (Kd.int .i64) (w0 := w) w.heap.size (by rfl) (.tmp 66) (.tmp 69) 22 3 (.int .i64 0) 8 rfl Try.underlying22 info3 rfl (by decide) (by omega) v177 y176 (l1_0.drop 1) _ _ _ (fun _ => True) (fun _ => False) rfl rfl ?aO ?aR (fun _ _ h => h) (fun _ h => h.elim) ?aF ?aB ?aS ?aL ?_
                 (case aR => first | (rw [← show (l1_0.drop 1).length = (l1_0.length - 1) from List.length_drop]; exact cU (Kd.C_below HR179.out HB.out)) | (exact cU (Kd.C_below HR179.out HB.out)))
                 (case aB => exact (bS5 HB.out GE164.out GE165.out GE166.out GE167.out GE183.out))
                 (case aF => exact (fun _ _ => trivial))
                 (case aO => exact (RU HO178.out))
                 (case aS => exact (below_size (bS5 HB.out GE164.out GE165.out GE166.out GE167.out GE183.out)))
                 (case aL => have := LMc85.out; have hlx_ := (show (l1_0.drop 1).length = (l1_0.length - 1) from List.length_drop); omega)
                 intro v181 w99 ho hb hg hat
                 rw [← Ny180.out] at ho
                 have n0_ := Aside0.mk (blk_grown (g := gb164) (o := .cells #[.slice A0_0 l0_0.length c0_0, .slice A0_1 l0_1.length c0_1] 28 (0, 0)) (kU BK164.out) hg (Kd.R_ne HO178.out BK164.out (by decide)))
                 have n1_ := Aside0.mk (blk_grown (g := gb165) (o := .cells #[.slice (some ad170) l1_0.length c1_0, .slice A1_1 l1_1.length c1_1] 28 (0, 0)) (kU BK165.out) hg (Kd.R_ne HO178.out BK165.out (by decide)))
                 have n2_ := Aside0.mk (blk_grown (g := gb166) (o := .cells #[.slice none 0 0, .slice none 0 0] 28 (0, 0)) (kU BK166.out) hg (Kd.R_ne HO178.out BK166.out (by decide)))
                 have n3_ := Aside0.mk (blk_grown (g := gb167) (o := .cells #[.slice none 0 0, .slice none 0 0] 28 (0, 0)) (kU BK167.out) hg (Kd.R_ne HO178.out BK167.out (by decide)))
                 have n4_ := Aside0.mk (blk_grown (g := gb183) (o := .cells #[.slice none 0 0, .slice none 0 0] 28 (0, 0)) (kU BK183.out) hg (Kd.R_ne HO178.out BK183.out (by decide)))
                 have n5_ := Aside0.mk (hb)
                 have n6_ := Aside0.mk (ho)
                 clear BK164 BK165 BK166 BK167 BK183 HB HO178
                 have BK164 := n0_
                 have BK165 := n1_
                 have BK166 := n2_
                 have BK167 := n3_
                 have BK183 := n4_
                 have HB := n5_
                 have HO182 := n6_
                 clear n0_ n1_ n2_ n3_ n4_ n5_ n6_
                 clear ho hb hg hat
                 obtain ⟨Ao100, co100, eo100⟩ := Kd.R_slice HO182.out
                 (first | subst eo100 | (injection eo100 with f1_ f2_ f3_; have f4_ := f1_.symm; have f5_ := f3_.symm; clear f1_ f2_ f3_; subst f4_; subst f5_))
                 refine hK.out _ _ ⟨(blk_cell BK164.out 0).trans rfl, (blk_cell BK164.out 1).trans rfl, (blk_cell BK165.out 0).trans rfl, (blk_cell BK165.out 1).trans rfl⟩ (fun hHeld => ?_)
                 clear hK K
                 refine norm_ (a' := ?_) ?_ ?_
                 rotate_left
                 ·
                  show Act.put _ (some 70) _ = _
                  simp only [Act.put, List.setIfInBounds_toArray, List.set_cons_zero, List.set_cons_succ, i64_w, i32_w]
                  rfl
                 refine pure_ (i := 8) (N := some 71) (v := ?_) (a' := ?_) #[true, true, true, true, true, true, true, true, true, true, false] rfl rfl (any_of HT_.out (by kernel_rfl)) (fun _ _ _ h => h) (Or.inl ⟨by rfl, ?_⟩) ?_ ?_
                 rotate_left
                 ·
                  intro w'
                  go_simp
                  with_reducible rfl
                 rotate_left
                 ·
                  simp only [Act.put, List.setIfInBounds_toArray, List.set_cons_zero, List.set_cons_succ, i64_w, i32_w]
                  rfl
                 exact norm_ (by simp only [putAll, Act.put, List.setIfInBounds_toArray, List.set_cons_zero, List.set_cons_succ]) (hCont (v174, v177, .slice Ao100 y180.length co100, gb183) _ ⟨hHeld, (RU HO182.out), (kU BK164.out), (kU BK165.out), (kU BK166.out), (kU BK167.out), (kU BK183.out), GW183.out, GE183.out, NB164_183.out, NB183_164.out, NB165_183.out, NB183_165.out, NB166_183.out, NB183_166.out, NB167_183.out, NB183_167.out, (bS5 HB.out GE164.out GE165.out GE166.out GE167.out GE183.out)⟩)
               ·
                skip
                refine box_step ?hg (N := 9) ?hd (cs := #[.slice none 0 0, .slice none 0 0]) (t := 28) ?hr ?_; (case hd => rfl); (case hg => rfl); (case hr => first | (go_simp; done) | (go_simp; rfl))
                intro gb183 hg w95 hbox hb
                have BK183 := Aside0.mk (hbox)
                have GW183 := Aside0.mk ((by rw [hg]; exact (below_size (bS4 HB.out GE164.out GE165.out GE166.out GE167.out)) : w.heap.size ≤ gb183))
                have GE183 := Aside0.mk ((by rw [hg]; exact (below_size (bS4 HB.out GE164.out GE165.out GE166.out GE167.out)) : w.heap.size ≤ gb183))
                replace HB := Aside0.mk (below_step (bS4 HB.out GE164.out GE165.out GE166.out GE167.out) hb)
                have NB164_183 := Aside0.mk (kN BK164.out hg)
                have NB183_164 := Aside0.mk (kM BK164.out hg)
                replace BK164 := Aside0.mk (kB BK164.out hb)
                have NB165_183 := Aside0.mk (kN BK165.out hg)
                have NB183_165 := Aside0.mk (kM BK165.out hg)
                replace BK165 := Aside0.mk (kB BK165.out hb)
                have NB166_183 := Aside0.mk (kN BK166.out hg)
                have NB183_166 := Aside0.mk (kM BK166.out hg)
                replace BK166 := Aside0.mk (kB BK166.out hb)
                have NB167_183 := Aside0.mk (kN BK167.out hg)
                have NB183_167 := Aside0.mk (kM BK167.out hg)
                replace BK167 := Aside0.mk (kB BK167.out hb)
                clear hb hbox hg
                refine hK.out _ _ ⟨(blk_cell BK164.out 0).trans rfl, (blk_cell BK164.out 1).trans rfl, (blk_cell BK165.out 0).trans rfl, (blk_cell BK165.out 1).trans rfl⟩ (fun hHeld => ?_)
                clear hK K
                refine norm_ (a' := ?_) ?_ ?_
                rotate_left
                ·
                 show Act.put _ (some 9) _ = _
                 simp only [Act.put, List.setIfInBounds_toArray, List.set_cons_zero, List.set_cons_succ, i64_w, i32_w]
                 rfl
                refine one_ (i := 0) (N := some 63) #[true, true, true, false, true, true, true, false, false, true, false] rfl rfl (one_of HT_.out (by kernel_rfl)) (by decide) (fun K hK => ?_)
                refine Kd.R_lit_step (Kd.int .i64) _ 3 ?hg (N := 63) ?hd (xs := ([] : List Int)) (inner := []) (ok := fun _ => True) (okp := fun _ => True) ?hr ?hp (fun _ hk => hk) trivial (Below.refl _ _) (Nat.le_refl _) (by simp) ?_; (case hd => rfl); (case hg => rfl); (case hr => first | (go_simp; done) | (go_simp; rfl)); (case hp => exact (Reps.none _ _))
                intro v174 w96 ho97 hb hg_ hnew_
                clear hg_ hnew_
                (first | rw [← Ny173.out] at ho97 | (simp only [Int.reduceToNat] at ho97; rw [← Ny173.out] at ho97))
                have HO175 := Aside0.mk (Kd.R_lower ho97 (below_size (bS5 HB.out GE164.out GE165.out GE166.out GE167.out GE183.out)))
                replace BK164 := Aside0.mk (kB BK164.out hb)
                replace BK165 := Aside0.mk (kB BK165.out hb)
                replace BK166 := Aside0.mk (kB BK166.out hb)
                replace BK167 := Aside0.mk (kB BK167.out hb)
                replace BK183 := Aside0.mk (kB BK183.out hb)
                replace HB := Aside0.mk (below_step (bS5 HB.out GE164.out GE165.out GE166.out GE167.out GE183.out) hb)
                clear hb ho97
                refine hK.out _ _ ⟨(blk_cell BK164.out 0).trans rfl, (blk_cell BK164.out 1).trans rfl, (blk_cell BK165.out 0).trans rfl, (blk_cell BK165.out 1).trans rfl⟩ (fun hHeld => ?_)
                clear hK K
                refine norm_ (a' := ?_) ?_ ?_
                rotate_left
                ·
                 show Act.put _ (some 63) _ = _
                 simp only [Act.put, List.setIfInBounds_toArray, List.set_cons_zero, List.set_cons_succ, i64_w, i32_w]
                 rfl
                refine one_ (i := 3) (N := some 66) #[true, true, true, true, true, true, true, false, false, true, false] rfl rfl (one_of HT_.out (by kernel_rfl)) (by decide) (fun K hK => ?_)
                refine Kd.R_append_rows_step (Kd.int .i64) (w0 := w) w.heap.size (by rfl) (.tmp 63) (.tmp 65) 22 3 (.int .i64 0) 8 rfl Try.underlying22 info3 rfl (by decide) (by omega) v174 y173 l0_0 _ _ _ (fun _ => True) (fun _ => False) rfl rfl ?aO ?aR (fun _ _ h => h) (fun _ h => h.elim) ?aF ?aB ?aS ?aL ?_
                (case aR => exact cU (Kd.C_below HR0_0.out HB.out))
                (case aB => exact (bS5 HB.out GE164.out GE165.out GE166.out GE167.out GE183.out))
                (case aF => exact (fun _ _ => trivial))
                (case aO => exact (RU HO175.out))
                (case aS => exact (below_size (bS5 HB.out GE164.out GE165.out GE166.out GE167.out GE183.out)))
                (case aL => have := LMc83.out; omega)
                intro v177 w98 ho hb hg hat
                rw [← Ny176.out] at ho
                have n0_ := Aside0.mk (blk_grown (g := gb164) (o := .cells #[.slice A0_0 l0_0.length c0_0, .slice A0_1 l0_1.length c0_1] 28 (0, 0)) (kU BK164.out) hg (Kd.R_ne HO175.out BK164.out (by decide)))
                have n1_ := Aside0.mk (blk_grown (g := gb165) (o := .cells #[.slice (some ad170) l1_0.length c1_0, .slice A1_1 l1_1.length c1_1] 28 (0, 0)) (kU BK165.out) hg (Kd.R_ne HO175.out BK165.out (by decide)))
                have n2_ := Aside0.mk (blk_grown (g := gb166) (o := .cells #[.slice none 0 0, .slice none 0 0] 28 (0, 0)) (kU BK166.out) hg (Kd.R_ne HO175.out BK166.out (by decide)))
                have n3_ := Aside0.mk (blk_grown (g := gb167) (o := .cells #[.slice none 0 0, .slice none 0 0] 28 (0, 0)) (kU BK167.out) hg (Kd.R_ne HO175.out BK167.out (by decide)))
                have n4_ := Aside0.mk (blk_grown (g := gb183) (o := .cells #[.slice none 0 0, .slice none 0 0] 28 (0, 0)) (kU BK183.out) hg (Kd.R_ne HO175.out BK183.out (by decide)))
                have n5_ := Aside0.mk (hb)
                have n6_ := Aside0.mk (ho)
                clear BK164 BK165 BK166 BK167 BK183 HB HO175
                have BK164 := n0_
                have BK165 := n1_
                have BK166 := n2_
                have BK167 := n3_
                have BK183 := n4_
                have HB := n5_
                have HO178 := n6_
                clear n0_ n1_ n2_ n3_ n4_ n5_ n6_
                clear ho hb hg hat
                refine hK.out _ _ ⟨(blk_cell BK164.out 0).trans rfl, (blk_cell BK164.out 1).trans rfl, (blk_cell BK165.out 0).trans rfl, (blk_cell BK165.out 1).trans rfl⟩ (fun hHeld => ?_)
                clear hK K
                refine norm_ (a' := ?_) ?_ ?_
                rotate_left
                ·
                 show Act.put _ (some 66) _ = _
                 simp only [Act.put, List.setIfInBounds_toArray, List.set_cons_zero, List.set_cons_succ, i64_w, i32_w]
                 rfl
                refine one_ (i := 7) (N := some 70) #[true, true, true, true, true, true, true, true, false, true, false] rfl rfl (one_of HT_.out (by kernel_rfl)) (by decide) (fun K hK => ?_)
                refine Kd.R_append_rows_step (Kd.int .i64) (w0 := w) w.heap.size (by rfl) (.tmp 66) (.tmp 69) 22 3 (.int .i64 0) 8 rfl Try.underlying22 info3 rfl (by decide) (by omega) v177 y176 (l1_0.drop 1) _ _ _ (fun _ => True) (fun _ => False) rfl rfl ?aO ?aR (fun _ _ h => h) (fun _ h => h.elim) ?aF ?aB ?aS ?aL ?_
                (case aR => first | (rw [← show (l1_0.drop 1).length = (l1_0.length - 1) from List.length_drop]; exact cU (Kd.C_below HR179.out HB.out)) | (exact cU (Kd.C_below HR179.out HB.out)))
                (case aB => exact (bS5 HB.out GE164.out GE165.out GE166.out GE167.out GE183.out))
                (case aF => exact (fun _ _ => trivial))
                (case aO => exact (RU HO178.out))
                (case aS => exact (below_size (bS5 HB.out GE164.out GE165.out GE166.out GE167.out GE183.out)))
                (case aL => have := LMc85.out; have hlx_ := (show (l1_0.drop 1).length = (l1_0.length - 1) from List.length_drop); omega)
                intro v181 w99 ho hb hg hat
                rw [← Ny180.out] at ho
                have n0_ := Aside0.mk (blk_grown (g := gb164) (o := .cells #[.slice A0_0 l0_0.length c0_0, .slice A0_1 l0_1.length c0_1] 28 (0, 0)) (kU BK164.out) hg (Kd.R_ne HO178.out BK164.out (by decide)))
                have n1_ := Aside0.mk (blk_grown (g := gb165) (o := .cells #[.slice (some ad170) l1_0.length c1_0, .slice A1_1 l1_1.length c1_1] 28 (0, 0)) (kU BK165.out) hg (Kd.R_ne HO178.out BK165.out (by decide)))
                have n2_ := Aside0.mk (blk_grown (g := gb166) (o := .cells #[.slice none 0 0, .slice none 0 0] 28 (0, 0)) (kU BK166.out) hg (Kd.R_ne HO178.out BK166.out (by decide)))
                have n3_ := Aside0.mk (blk_grown (g := gb167) (o := .cells #[.slice none 0 0, .slice none 0 0] 28 (0, 0)) (kU BK167.out) hg (Kd.R_ne HO178.out BK167.out (by decide)))
                have n4_ := Aside0.mk (blk_grown (g := gb183) (o := .cells #[.slice none 0 0, .slice none 0 0] 28 (0, 0)) (kU BK183.out) hg (Kd.R_ne HO178.out BK183.out (by decide)))
                have n5_ := Aside0.mk (hb)
                have n6_ := Aside0.mk (ho)
                clear BK164 BK165 BK166 BK167 BK183 HB HO178
                have BK164 := n0_
                have BK165 := n1_
                have BK166 := n2_
                have BK167 := n3_
                have BK183 := n4_
                have HB := n5_
                have HO182 := n6_
                clear n0_ n1_ n2_ n3_ n4_ n5_ n6_
                clear ho hb hg hat
                obtain ⟨Ao100, co100, eo100⟩ := Kd.R_slice HO182.out
                (first | subst eo100 | (injection eo100 with f1_ f2_ f3_; have f4_ := f1_.symm; have f5_ := f3_.symm; clear f1_ f2_ f3_; subst f4_; subst f5_))
                refine hK.out _ _ ⟨(blk_cell BK164.out 0).trans rfl, (blk_cell BK164.out 1).trans rfl, (blk_cell BK165.out 0).trans rfl, (blk_cell BK165.out 1).trans rfl⟩ (fun hHeld => ?_)
                clear hK K
                refine norm_ (a' := ?_) ?_ ?_
                rotate_left
                ·
                 show Act.put _ (some 70) _ = _
                 simp only [Act.put, List.setIfInBounds_toArray, List.set_cons_zero, List.set_cons_succ, i64_w, i32_w]
                 rfl
                refine pure_ (i := 8) (N := some 71) (v := ?_) (a' := ?_) #[true, true, true, true, true, true, true, true, true, true, false] rfl rfl (any_of HT_.out (by kernel_rfl)) (fun _ _ _ h => h) (Or.inl ⟨by rfl, ?_⟩) ?_ ?_
                rotate_left
                ·
                 intro w'
                 go_simp
                 with_reducible rfl
                rotate_left
                ·
                 simp only [Act.put, List.setIfInBounds_toArray, List.set_cons_zero, List.set_cons_succ, i64_w, i32_w]
                 rfl
                exact norm_ (by simp only [putAll, Act.put, List.setIfInBounds_toArray, List.set_cons_zero, List.set_cons_succ]) (hCont (v174, v177, .slice Ao100 y180.length co100, gb183) _ ⟨hHeld, (RU HO182.out), (kU BK164.out), (kU BK165.out), (kU BK166.out), (kU BK167.out), (kU BK183.out), GW183.out, GE183.out, NB164_183.out, NB183_164.out, NB165_183.out, NB183_165.out, NB166_183.out, NB183_166.out, NB167_183.out, NB183_167.out, (bS5 HB.out GE164.out GE165.out GE166.out GE167.out GE183.out)⟩)
              rintro ⟨v174, v177, v181, gb183⟩ w101 ⟨hS_, h0_, h1_, h2_, h3_, h4_, h5_, h6_, h7_, h8_, h9_, h10_, h11_, h12_, h13_, h14_, h15_, h16_⟩
              have n0_ : Aside0 (Kd.R (Kd.int .i64) 3 w101 w.heap.size (fun _ => True) v181 y180) := ⟨h0_⟩
              have n1_ : Aside0 (w101.heap[gb164]? = some (.cells #[.slice A0_0 l0_0.length c0_0, .slice A0_1 l0_1.length c0_1] 28 (0, 0))) := ⟨h1_⟩
              have n2_ : Aside0 (w101.heap[gb165]? = some (.cells #[.slice (some ad170) l1_0.length c1_0, .slice A1_1 l1_1.length c1_1] 28 (0, 0))) := ⟨h2_⟩
              have n3_ : Aside0 (w101.heap[gb166]? = some (.cells #[.slice none 0 0, .slice none 0 0] 28 (0, 0))) := ⟨h3_⟩
              have n4_ : Aside0 (w101.heap[gb167]? = some (.cells #[.slice none 0 0, .slice none 0 0] 28 (0, 0))) := ⟨h4_⟩
              have n5_ : Aside0 (w101.heap[gb183]? = some (.cells #[.slice none 0 0, .slice none 0 0] 28 (0, 0))) := ⟨h5_⟩
              have n6_ : Aside0 (w.heap.size ≤ gb183) := ⟨h6_⟩
              have n7_ : Aside0 (w.heap.size ≤ gb183) := ⟨h7_⟩
              have n8_ : Aside0 (gb164 ≠ gb183) := ⟨h8_⟩
              have n9_ : Aside0 (gb183 ≠ gb164) := ⟨h9_⟩
              have n10_ : Aside0 (gb165 ≠ gb183) := ⟨h10_⟩
              have n11_ : Aside0 (gb183 ≠ gb165) := ⟨h11_⟩
              have n12_ : Aside0 (gb166 ≠ gb183) := ⟨h12_⟩
              have n13_ : Aside0 (gb183 ≠ gb166) := ⟨h13_⟩
              have n14_ : Aside0 (gb167 ≠ gb183) := ⟨h14_⟩
              have n15_ : Aside0 (gb183 ≠ gb167) := ⟨h15_⟩
              have n16_ : Aside0 (Below w.heap.size w w101) := ⟨h16_⟩
              clear BK164 BK165 BK166 BK167 HB
              clear h0_ h1_ h2_ h3_ h4_ h5_ h6_ h7_ h8_ h9_ h10_ h11_ h12_ h13_ h14_ h15_ h16_
              have HO182 := n0_
              have BK164 := n1_
              have BK165 := n2_
              have BK166 := n3_
              have BK167 := n4_
              have BK183 := n5_
              have GW183 := n6_
              have GE183 := n7_
              have NB164_183 := n8_
              have NB183_164 := n9_
              have NB165_183 := n10_
              have NB183_165 := n11_
              have NB166_183 := n12_
              have NB183_166 := n13_
              have NB167_183 := n14_
              have NB183_167 := n15_
              have HB := n16_
              clear n0_ n1_ n2_ n3_ n4_ n5_ n6_ n7_ n8_ n9_ n10_ n11_ n12_ n13_ n14_ n15_ n16_
              have hHeld : w101.cell? ⟨gb164, 0, none⟩ = some (.slice A0_0 l0_0.length c0_0) ∧ w101.cell? ⟨gb164, 1, none⟩ = some (.slice A0_1 l0_1.length c0_1) ∧ w101.cell? ⟨gb165, 0, none⟩ = some (.slice (some ad170) l1_0.length c1_0) ∧ w101.cell? ⟨gb165, 1, none⟩ = some (.slice A1_1 l1_1.length c1_1) := hS_
              obtain ⟨Ao102, co102, eo102⟩ := Kd.R_slice HO182.out
              (first | subst eo102 | (injection eo102 with f1_ f2_ f3_; have f4_ := f1_.symm; have f5_ := f3_.symm; clear f1_ f2_ f3_; subst f4_; subst f5_))
              refine norm_ (a' := ?_) ?_ ?_
              rotate_left
              ·
               simp only [putAll, Act.put, List.setIfInBounds_toArray, List.set_cons_zero, List.set_cons_succ]
               rfl
              refine one_ (i := 10) (N := none) #[true, true, true, true, true, true, true, true, true, true, true] rfl rfl (one_of HT_.out (by kernel_rfl)) (by decide) (fun K hK => ?_)
              have hs103 : w101.cell? ⟨gb183, 0, none⟩ = some (.slice none 0 0) := (blk_cell BK183.out 0).trans rfl
              have hfs103 := blk_frozen BK183.out 0
              have hns103_0 := NB164_183.out
              have hns103_1 := NB165_183.out
              have hns103_2 := NB166_183.out
              have hns103_3 := NB167_183.out
              have hms103_0 := NB183_164.out
              have hms103_1 := NB183_165.out
              have hms103_2 := NB183_166.out
              have hms103_3 := NB183_167.out
              have hs104 : w101.cell? ⟨gb183, 1, none⟩ = some (.slice none 0 0) := (blk_cell BK183.out 1).trans rfl
              have hfs104 := blk_frozen BK183.out 1
              have hns104_0 := NB164_183.out
              have hns104_1 := NB165_183.out
              have hns104_2 := NB166_183.out
              have hns104_3 := NB167_183.out
              have hms104_0 := NB183_164.out
              have hms104_1 := NB183_165.out
              have hms104_2 := NB183_166.out
              have hms104_3 := NB183_167.out
              refine skip_ (w1 := ?_) (by rfl) rfl ?_ ?_
              rotate_left
              ·
               go_simp
               rfl
              refine hK.out _ _ ⟨((cell_far (p := ⟨gb183, _, none⟩) NB164_183.out _).trans (((cell_far (p := ⟨gb183, _, none⟩) NB164_183.out _).trans (hHeld.1)))), ((cell_far (p := ⟨gb183, _, none⟩) NB164_183.out _).trans (((cell_far (p := ⟨gb183, _, none⟩) NB164_183.out _).trans (hHeld.2.1)))), ((cell_far (p := ⟨gb183, _, none⟩) NB165_183.out _).trans (((cell_far (p := ⟨gb183, _, none⟩) NB165_183.out _).trans (hHeld.2.2.1)))), ((cell_far (p := ⟨gb183, _, none⟩) NB165_183.out _).trans (((cell_far (p := ⟨gb183, _, none⟩) NB165_183.out _).trans (hHeld.2.2.2))))⟩ (fun hHeld => ?_)
              clear hK K
              refine done_ (done_of HT_.out (by kernel_rfl)) ?_
              have hnb105 := NB165_166.out
              have hnc105 := NB166_165.out
              have hnb106 := NB165_167.out
              have hnc106 := NB167_165.out
              have hnb107 := NB165_183.out
              have hnc107 := NB183_165.out
              have hcz108_0 : w101.cell? ⟨gb165, 0, none⟩ = some (.slice (some ad170) l1_0.length c1_0) := (blk_cell BK165.out 0).trans rfl
              have hcz108_1 : w101.cell? ⟨gb165, 1, none⟩ = some (.slice A1_1 l1_1.length c1_1) := (blk_cell BK165.out 1).trans rfl
              have hfz108_0 := blk_frozen BK165.out 0
              have hfz108_1 := blk_frozen BK165.out 1
              try go_wp2_with (first | ((with_reducible refine gate_callee (f := 19) rfl ?_); refine goesL_ (some 73) rfl rfl Try.func19 (by kernel_rfl) rfl #[.agg #[.slice (some ad170) l1_0.length c1_0, .slice A1_1 l1_1.length c1_1]] rfl lU ?_; (with_reducible refine (spec_l3Rows.calls k2 _ _ l1_0 _ _ l1_1 t184 _ ?side1 ?side2 ?side3 ?side4 A86.out).mono ?_); (case side1 => exact Kd.C_below HR1_0.out (bS5 HB.out GE164.out GE165.out GE166.out GE167.out GE183.out)); (case side2 => exact HC1_0.out); (case side3 => exact Kd.C_below HR1_1.out (bS5 HB.out GE164.out GE165.out GE166.out GE167.out GE183.out)); (case side4 => exact HC1_1.out); rintro e w109 ⟨v185, rfl, ho0, hb⟩; refine ⟨_, rfl, ?_⟩; have HO186 := Aside0.mk (Kd.S_lower (Kd.S_newB (Kd.S_newB (Kd.S_newB (Kd.S_newB (Kd.S_newB (Kd.S_new' ho0 (Kd.R_lt (by refine RU ?_; exact (far2 HO182.out BK183.out)))) (g := gb164) (o := .cells #[.slice A0_0 l0_0.length c0_0, .slice A0_1 l0_1.length c0_1] 28 (0, 0)) (by refine kU ?_; refine blk_far ?_ NB164_183.out _; refine kU ?_; refine blk_far ?_ NB164_183.out _; refine kU ?_; exact BK164.out)) (g := gb165) (o := .cells #[.slice (some ad170) l1_0.length c1_0, .slice A1_1 l1_1.length c1_1] 28 (0, 0)) (by refine kU ?_; refine blk_far ?_ NB165_183.out _; refine kU ?_; refine blk_far ?_ NB165_183.out _; refine kU ?_; exact BK165.out)) (g := gb166) (o := .cells #[.slice none 0 0, .slice none 0 0] 28 (0, 0)) (by refine kU ?_; refine blk_far ?_ NB166_183.out _; refine kU ?_; refine blk_far ?_ NB166_183.out _; refine kU ?_; exact BK166.out)) (g := gb167) (o := .cells #[.slice none 0 0, .slice none 0 0] 28 (0, 0)) (by refine kU ?_; refine blk_far ?_ NB167_183.out _; refine kU ?_; refine blk_far ?_ NB167_183.out _; refine kU ?_; exact BK167.out)) (g := gb183) (o := .cells #[.slice Ao102 y180.length co102, .slice none 0 0] 28 (0, 0)) (by refine kU ?_; refine blk_put (cs := #[.slice Ao102 y180.length co102, .slice none 0 0]) ?_ 1 _ rfl; refine kU ?_; refine blk_put (cs := #[.slice none 0 0, .slice none 0 0]) ?_ 0 _ rfl; refine kU ?_; exact BK183.out)) (below_size (bS5 HB.out GE164.out GE165.out GE166.out GE167.out GE183.out))); replace HO182 := Aside0.mk (Kd.R_below (by refine RU ?_; exact (far2 HO182.out BK183.out)) hb); replace BK164 := Aside0.mk (blk_below (g := gb164) (o := .cells #[.slice A0_0 l0_0.length c0_0, .slice A0_1 l0_1.length c0_1] 28 (0, 0)) (by refine kU ?_; refine blk_far ?_ NB164_183.out _; refine kU ?_; refine blk_far ?_ NB164_183.out _; refine kU ?_; exact BK164.out) hb); replace BK165 := Aside0.mk (blk_below (g := gb165) (o := .cells #[.slice (some ad170) l1_0.length c1_0, .slice A1_1 l1_1.length c1_1] 28 (0, 0)) (by refine kU ?_; refine blk_far ?_ NB165_183.out _; refine kU ?_; refine blk_far ?_ NB165_183.out _; refine kU ?_; exact BK165.out) hb); replace BK166 := Aside0.mk (blk_below (g := gb166) (o := .cells #[.slice none 0 0, .slice none 0 0] 28 (0, 0)) (by refine kU ?_; refine blk_far ?_ NB166_183.out _; refine kU ?_; refine blk_far ?_ NB166_183.out _; refine kU ?_; exact BK166.out) hb); replace BK167 := Aside0.mk (blk_below (g := gb167) (o := .cells #[.slice none 0 0, .slice none 0 0] 28 (0, 0)) (by refine kU ?_; refine blk_far ?_ NB167_183.out _; refine kU ?_; refine blk_far ?_ NB167_183.out _; refine kU ?_; exact BK167.out) hb); replace BK183 := Aside0.mk (blk_below (g := gb183) (o := .cells #[.slice Ao102 y180.length co102, .slice none 0 0] 28 (0, 0)) (by refine kU ?_; refine blk_put (cs := #[.slice Ao102 y180.length co102, .slice none 0 0]) ?_ 1 _ rfl; refine kU ?_; refine blk_put (cs := #[.slice none 0 0, .slice none 0 0]) ?_ 0 _ rfl; refine kU ?_; exact BK183.out) hb); replace HB := Aside0.mk (below_step (bS5 HB.out GE164.out GE165.out GE166.out GE167.out GE183.out) hb); (try clear hb); (try clear hb2); (try clear hk); (try clear hi); (try clear ho0); have hnb110 := NB183_164.out; have hnc110 := NB164_183.out; have hnb111 := NB183_166.out; have hnc111 := NB166_183.out; have hnb112 := NB183_167.out; have hnc112 := NB167_183.out; have hcz113_0 : w109.cell? ⟨gb183, 0, none⟩ = some (.slice Ao102 y180.length co102) := (blk_cell BK183.out 0).trans rfl; have hcz113_1 : w109.cell? ⟨gb183, 1, none⟩ = some (.slice none 0 0) := (blk_cell BK183.out 1).trans rfl; have hfz113_0 := blk_frozen BK183.out 0; have hfz113_1 := blk_frozen BK183.out 1) | ((with_reducible refine gate_callee (f := 28) rfl ?_); refine goesL_ (some 76) rfl rfl Try.func28 (by kernel_rfl) rfl #[.slice Ao102 y180.length co102] rfl lU ?_; (with_reducible refine (spec_ShapeOk.calls k2 _ _ y180 true _ ?side1 ?side2 A87.out).mono ?_); (case side1 => exact cU (Kd.R_reads' HO182.out).2.2); (case side2 => exact (Kd.R_reads' HO182.out).2.1); rintro e w' ⟨rfl, ⟨nd, rfl⟩⟩; refine ⟨_, rfl, ?_⟩))
              go_loopg [11] k2 (fun kq v11 w' => ∃ (x11_3 : Int) (x184001_3 : List Int) (u184001 : Value), v11 = .int .i64 x11_3 ∧ Aside0 (spec_Pick.l1 kq (rd l1_0 0) t184 x11_3 l0_0 l0_1 y180 x184001_3 = some (r1, r2, r3)) ∧ Aside0 (kq ≤ k2) ∧ Aside0 (Kd.S k28 28 w' w.heap.size (fun k_ => some k_ ≠ ((.slice Ao102 y180.length co102) : Value).ownBlock ∧ some k_ ≠ (u184001 : Value).ownBlock ∧ k_ ≠ gb164 ∧ k_ ≠ gb165 ∧ k_ ≠ gb166 ∧ k_ ≠ gb167 ∧ k_ ≠ gb183) v185 t184) ∧ Aside0 (Kd.R (Kd.int .i64) 3 w' w.heap.size (fun k_ => some k_ ≠ (u184001 : Value).ownBlock) (.slice Ao102 y180.length co102) y180) ∧ Aside0 (Kd.R (Kd.int .i64) 3 w' w.heap.size (fun k_ => some k_ ≠ ((.slice Ao102 y180.length co102) : Value).ownBlock) u184001 x184001_3) ∧ Aside0 (w'.heap[gb164]? = some (.cells #[(.slice A0_0 l0_0.length c0_0), (.slice A0_1 l0_1.length c0_1)] 28 (0, 0))) ∧ Aside0 (w'.heap[gb165]? = some (.cells #[(.slice (some ad170) l1_0.length c1_0), (.slice A1_1 l1_1.length c1_1)] 28 (0, 0))) ∧ Aside0 (w'.heap[gb166]? = some (.cells #[(.slice none 0 0), (.slice none 0 0)] 28 (0, 0))) ∧ Aside0 (w'.heap[gb167]? = some (.cells #[(.slice none 0 0), (.slice none 0 0)] 28 (0, 0))) ∧ Aside0 (w'.heap[gb183]? = some (.cells #[(.slice Ao102 y180.length co102), u184001] 28 (0, 0))) ∧ Aside0 (Below w.heap.size w w'))
              case atStart => exact ⟨(0), (([] : List Int)), (.slice none 0 0), (by first | rfl | (simp; done) | (simp [*]; done)), H', ⟨Nat.le_refl _⟩, ⟨by refine SU ?_; exact Kd.S_mono HO186.out (fun _ hk => ⟨hk.1.1.1.1.1.2, ⟨(by simp [Value.ownBlock]), ⟨hk.1.1.1.1.2, ⟨hk.1.1.1.2, ⟨hk.1.1.2, ⟨hk.1.2, hk.2⟩⟩⟩⟩⟩⟩)⟩, ⟨by refine RU ?_; exact Kd.R_mono HO182.out (fun _ hk => (by simp [Value.ownBlock]))⟩, ⟨by first | exact Kd.R_nil _ _ _ _ _ | exact Kd.N_nil _ _ _ _ _ | exact Kd.V_nil _ _ _ _ _ | exact Kd.Q_nil _ _ _ _ _ | exact Kd.S_nil _ _ _ _ _⟩, ⟨by refine kU ?_; exact BK164.out⟩, ⟨by refine kU ?_; exact BK165.out⟩, ⟨by refine kU ?_; exact BK166.out⟩, ⟨by refine kU ?_; exact BK167.out⟩, ⟨by refine kU ?_; exact BK183.out⟩, ⟨by exact bS5 HB.out GE164.out GE165.out GE166.out GE167.out GE183.out⟩⟩
              case round =>
               clear H'
               try clear c1
               try clear c2
               try clear p2
               try clear c8
               try clear c10
               try clear c11
               try clear c19
               try clear c28
               try clear c83
               try clear c85
               try clear c105
               try clear c106
               try clear c107
               try clear c110
               try clear c111
               try clear c112
               try clear hcz108_0
               try clear hcz108_1
               try clear hcz113_0
               try clear hcz113_1
               try clear hfz108_0
               try clear hfz108_1
               try clear hfz113_0
               try clear hfz113_1
               obtain ⟨x11_3, x184001_3, u184001, rfl, HA, HK3, HO_10, HO_184000, HO_184001, BK164, BK165, BK166, BK167, BK183, HB⟩ := hrel
               cases gk with
               | zero => exact absurd HA.out (by simp [spec_Pick.l1])
               | succ k3 =>
                have H := HA.out
                clear HA
                simp only [spec_Pick.l1] at H
                by_cases c114 : x11_3 < (l0_1.length : Int)
                ·
                 rw [if_pos c114] at H
                 have c114b0 : decide (x11_3 < (l0_1.length : Int)) = true := decide_eq_true c114
                 clear c114
                 by_cases c115 : 0 ≤ x11_3
                 ·
                  rw [if_pos c115] at H
                  have c115b0 : decide (0 ≤ x11_3) = true := decide_eq_true c115
                  clear c115
                  by_cases c116 : (rd l1_0 0) = 0
                  ·
                   rw [if_pos c116] at H
                   exact absurd H (by simp)
                  ·
                   rw [if_neg c116] at H
                   have c116b0 : ((rd l1_0 0) == 0) = false := beq_eq_false_iff_ne.mpr c116
                   have c116b1 : ((rd l1_0 0) != 0) = true := bne_iff_ne.mpr c116
                   obtain ⟨ji117, hji117⟩ : ∃ j_ : Int, (Int.tmod (wrap64 ((rd l0_1 x11_3) + (rd l1_0 0))) (rd l1_0 0)) = j_ := ⟨_, rfl⟩
                   replace H : (if 0 ≤ (ji117) then (if (ji117) < (t184.length : Int) then (if x184001_3.length + ((rd_T28 t184 (ji117)).f1).length < 17592186044416 then (spec_Pick.l1 k3 (rd l1_0 0) t184 (wrap64 (x11_3 + 1)) l0_0 l0_1 y180 (x184001_3 ++ ((rd_T28 t184 (ji117)).f1))) else (none)) else (none)) else (none)) = some (r1, r2, r3) := by first | (rw [hji117] at H; exact H) | (simp only [hji117] at H ⊢; exact H)
                   by_cases c118 : 0 ≤ (ji117)
                   ·
                    rw [if_pos c118] at H
                    have c118b0 : decide (0 ≤ (ji117)) = true := decide_eq_true c118
                    clear c118
                    by_cases c119 : (ji117) < (t184.length : Int)
                    ·
                     rw [if_pos c119] at H
                     have c119b0 : decide ((ji117) < (t184.length : Int)) = true := decide_eq_true c119
                     clear c119
                     by_cases c120 : x184001_3.length + ((rd_T28 t184 (ji117)).f1).length < 17592186044416
                     ·
                      rw [if_pos c120] at H
                      have LMc120 := Aside0.mk c120
                      clear c120
                      obtain ⟨y190, hy190⟩ : ∃ y_ : List Int, y_ = (x184001_3 ++ ((rd_T28 t184 (ji117)).f1)) := ⟨_, rfl⟩
                      replace H : (spec_Pick.l1 k3 (rd l1_0 0) t184 (wrap64 (x11_3 + 1)) l0_0 l0_1 y180 y190) = some (r1, r2, r3) := by first | (rw [hy190]; with_reducible exact H) | (have H2_ := (Option.bind_some _ _).symm.trans H; rw [hy190]; with_reducible exact H2_) | (have H2_ := (Option.bind_some _ _).symm.trans H; with_reducible exact H2_) | with_reducible exact H | (rw [hy190]; exact H) | exact H
                      have Ny190 := Aside0.mk hy190
                      clear hy190
                      have H' := Aside0.mk H
                      clear H
                      have hnb121 := NB164_165.out
                      have hnc121 := NB165_164.out
                      have hnb122 := NB164_166.out
                      have hnc122 := NB166_164.out
                      have hnb123 := NB164_167.out
                      have hnc123 := NB167_164.out
                      have hnb124 := NB164_183.out
                      have hnc124 := NB183_164.out
                      have hcz125_0 : wr.cell? ⟨gb164, 0, none⟩ = some (.slice A0_0 l0_0.length c0_0) := (blk_cell BK164.out 0).trans rfl
                      have hcz125_1 : wr.cell? ⟨gb164, 1, none⟩ = some (.slice A0_1 l0_1.length c0_1) := (blk_cell BK164.out 1).trans rfl
                      have hfz125_0 := blk_frozen BK164.out 0
                      have hfz125_1 := blk_frozen BK164.out 1
                      try go_wp2
                      replace HO_10 := Aside0.mk (Kd.S_drew HO_10.out)
                      replace HO_184000 := Aside0.mk (Kd.R_drew HO_184000.out)
                      replace HO_184001 := Aside0.mk (Kd.R_drew HO_184001.out)
                      replace BK164 := Aside0.mk (blk_drew BK164.out)
                      replace BK165 := Aside0.mk (blk_drew BK165.out)
                      replace BK166 := Aside0.mk (blk_drew BK166.out)
                      replace BK167 := Aside0.mk (blk_drew BK167.out)
                      replace BK183 := Aside0.mk (blk_drew BK183.out)
                      replace HB := Aside0.mk (below_drew1 HB.out)
                      have p188 : 0 ≤ (x11_3 : Int) := of_decide_eq_true (by first | (with_reducible assumption) | assumption)
                      have q188 : x11_3 < (l0_1.length : Int) := of_decide_eq_true (by first | (with_reducible assumption) | assumption)
                      obtain ⟨ad188, e188, hx188_0⟩ := Kd.at_int HR0_1.out x11_3 p188 q188
                      have hw188_0 := hx188_0
                      cases e188
                      replace hx188_0 := (HB.out.cell (World.block_lt_of_cell? w _ hx188_0)).trans hx188_0
                      replace p188 := eq_true p188
                      replace q188 := eq_true q188
                      obtain ⟨Ao127, co127, eo127⟩ := Kd.S_slice HO_10.out
                      (first | subst eo127 | (injection eo127 with f1_ f2_ f3_; have f4_ := f1_.symm; have f5_ := f3_.symm; clear f1_ f2_ f3_; subst f4_; subst f5_))
                      have p189 : 0 ≤ ((ji117) : Int) := of_decide_eq_true (by first | (with_reducible assumption) | assumption)
                      have q189 : (ji117) < (t184.length : Int) := of_decide_eq_true (by first | (with_reducible assumption) | assumption)
                      obtain ⟨ad189, A189_0, c189_0, A189_1, c189_1, e189, hx189_0, hx189_1, hl189_0, hi189_0, hl189_1, hi189_1⟩ := at_T28 (Kd.S_reads' HO_10.out).2.2 (ji117) p189 q189
                      cases e189
                      obtain ⟨ce189, hce189, hMe189, hcc189⟩ := Kd.S_get HO_10.out z28 (ji117) p189 (by first | exact q189 | exact of_decide_eq_true (by first | (with_reducible assumption) | assumption) | (have e_ := (Kd.S_reads' HO_10.out).1; omega))
                      obtain ⟨ve189_0, ve189_1, rfl, ge189_0, ge189_1⟩ := k28_openM hMe189
                      have hv189_0 := hcc189 0 _ rfl
                      rw [Nat.add_zero] at hv189_0
                      replace hv189_0 := Option.some.inj (hv189_0.symm.trans hx189_0)
                      rw [hv189_0] at ge189_0
                      have HL189_0 := Aside0.mk (show Kd.R (Kd.int .i64) 3 _ _ _ _ ((rd_T28 t184 (ji117)).f0) from ge189_0)
                      clear hv189_0 ge189_0
                      have hv189_1 := hcc189 1 _ rfl
                      rw [add_field _ _ 1 (by omega)] at hv189_1
                      replace hv189_1 := Option.some.inj (hv189_1.symm.trans hx189_1)
                      rw [hv189_1] at ge189_1
                      have HL189_1 := Aside0.mk (show Kd.R (Kd.int .i64) 3 _ _ _ _ ((rd_T28 t184 (ji117)).f1) from ge189_1)
                      clear hv189_1 ge189_1
                      clear hcc189 hce189
                      have HR189_0 := Aside0.mk hi189_0
                      have HC189_0 := Aside0.mk hl189_0
                      clear hi189_0 hl189_0
                      have HR189_1 := Aside0.mk hi189_1
                      have HC189_1 := Aside0.mk hl189_1
                      clear hi189_1 hl189_1
                      replace p189 := eq_true p189
                      replace q189 := eq_true q189
                      refine start_ (n := 18) (S := fun w' => w'.cell? ⟨gb183, 0, none⟩ = some (.slice Ao102 y180.length co102) ∧ w'.cell? ⟨gb183, 1, none⟩ = some (u184001) ∧ w'.cell? ⟨gb164, 0, none⟩ = some (.slice A0_0 l0_0.length c0_0) ∧ w'.cell? ⟨gb164, 1, none⟩ = some (.slice (some ad188) l0_1.length c0_1) ∧ w'.cell? (ad188.add (x11_3).toNat) = some (.int .i64 (rd l0_1 x11_3)) ∧ w'.cell? (ad189.add (((ji117)).toNat * 2)) = some (.slice A189_0 ((rd_T28 t184 (ji117)).f0).length c189_0) ∧ w'.cell? ⟨(ad189.add (((ji117)).toNat * 2)).block, (ad189.add (((ji117)).toNat * 2)).off + 1, none⟩ = some (.slice A189_1 ((rd_T28 t184 (ji117)).f1).length c189_1)) (ds := [15, 17]) #[false, false, false, false, false, false, false, false, false, false, false, false, false, false, false, false, false, false] (by kernel_rfl) rfl rfl ⟨(blk_cell BK183.out 0).trans rfl, (blk_cell BK183.out 1).trans rfl, (blk_cell BK164.out 0).trans rfl, (blk_cell BK164.out 1).trans rfl, ((HB.out.cell (World.block_lt_of_cell? w _ hw188_0)).trans hw188_0), hx189_0, hx189_1⟩ (fun hHeld => ?_); refine with_tabW spec_Pick.tab19 spec_Pick.bits19 (fun HT_ HW_ => ?_)
                      generalize wr.drew = w126 at HO_10 HO_184000 HO_184001 BK164 BK165 BK166 BK167 BK183 HB HL189_0 HL189_1 HR189_0 HR189_1 hx188_0 hx189_0 hx189_1 hHeld ⊢
                      refine pure_ (i := 0) (N := some 86) (v := ?_) (a' := ?_) #[true, false, false, false, false, false, false, false, false, false, false, false, false, false, false, false, false, false] rfl rfl (any_of HT_.out (by kernel_rfl)) (fun _ _ _ h => h) (Or.inl ⟨by rfl, ?_⟩) ?_ ?_
                      rotate_left
                      ·
                       intro w'
                       go_simp
                       with_reducible rfl
                      rotate_left
                      ·
                       simp only [Act.put, List.setIfInBounds_toArray, List.set_cons_zero, List.set_cons_succ, i64_w, i32_w]
                       rfl
                      refine pure_ (i := 2) (N := some 88) (v := ?_) (a' := ?_) #[true, false, true, false, false, false, false, false, false, false, false, false, false, false, false, false, false, false] rfl rfl (any_of HT_.out (by kernel_rfl)) (fun _ _ _ h => h) (Or.inl ⟨by rfl, ?_⟩) ?_ ?_
                      rotate_left
                      ·
                       intro w'
                       go_simp
                       with_reducible rfl
                      rotate_left
                      ·
                       simp only [Act.put, List.setIfInBounds_toArray, List.set_cons_zero, List.set_cons_succ, i64_w, i32_w]
                       rfl
                      refine pure_ (i := 3) (N := some 89) (v := ?_) (a' := ?_) #[true, false, true, true, false, false, false, false, false, false, false, false, false, false, false, false, false, false] rfl rfl (any_of HT_.out (by kernel_rfl)) (fun _ _ _ h => h) (Or.inl ⟨by rfl, ?_⟩) ?_ ?_
                      rotate_left
                      ·
                       intro w'
                       go_simp
                       with_reducible rfl
                      rotate_left
                      ·
                       simp only [Act.put, List.setIfInBounds_toArray, List.set_cons_zero, List.set_cons_succ, i64_w, i32_w]
                       rfl
                      refine pure_ (i := 5) (N := some 91) (v := ?_) (a' := ?_) #[true, false, true, true, false, true, false, false, false, false, false, false, false, false, false, false, false, false] rfl rfl (any_of HT_.out (by kernel_rfl)) (fun _ _ _ h => h) (Or.inl ⟨by rfl, ?_⟩) ?_ ?_
                      rotate_left
                      ·
                       intro w'
                       go_simp
                       with_reducible rfl
                      rotate_left
                      ·
                       simp only [Act.put, List.setIfInBounds_toArray, List.set_cons_zero, List.set_cons_succ, i64_w, i32_w]
                       rfl
                      refine pure_ (i := 8) (N := some 94) (v := ?_) (a' := ?_) #[true, false, true, true, false, true, false, false, true, false, false, false, false, false, false, false, false, false] rfl rfl (any_of HT_.out (by kernel_rfl)) (fun _ _ _ h => h) (Or.inl ⟨by rfl, ?_⟩) ?_ ?_
                      rotate_left
                      ·
                       intro w'
                       go_simp
                       with_reducible rfl
                      rotate_left
                      ·
                       simp only [Act.put, List.setIfInBounds_toArray, List.set_cons_zero, List.set_cons_succ, i64_w, i32_w]
                       rfl
                      refine pure_ (i := 10) (N := some 96) (v := ?_) (a' := ?_) #[true, false, true, true, false, true, false, false, true, false, true, false, false, false, false, false, false, false] rfl rfl (any_of HT_.out (by kernel_rfl)) (fun _ _ _ h => h) (Or.inl ⟨by rfl, ?_⟩) ?_ ?_
                      rotate_left
                      ·
                       intro w'
                       go_simp
                       with_reducible rfl
                      rotate_left
                      ·
                       simp only [Act.put, List.setIfInBounds_toArray, List.set_cons_zero, List.set_cons_succ, i64_w, i32_w]
                       rfl
                      refine take_ (i := 1) (N := some 87) (v := ?_) (a' := ?_) #[true, true, true, true, false, true, false, false, true, false, true, false, false, false, false, false, false, false] rfl rfl (take_ofW HT_.out HW_.out (by kernel_rfl)) (fun _ _ _ h => h) (Or.inl ⟨by rfl, ?_⟩) hHeld ?_ ?_
                      rotate_left
                      ·
                       rintro w' ⟨s0, s1, s2, s3, s4, s5, s6⟩
                       go_simp
                       with_reducible rfl
                      rotate_left
                      ·
                       simp only [Act.put, List.setIfInBounds_toArray, List.set_cons_zero, List.set_cons_succ, i64_w, i32_w]
                       rfl
                      refine take_ (i := 4) (N := some 90) (v := ?_) (a' := ?_) #[true, true, true, true, true, true, false, false, true, false, true, false, false, false, false, false, false, false] rfl rfl (take_ofW HT_.out HW_.out (by kernel_rfl)) (fun _ _ _ h => h) (Or.inl ⟨by rfl, ?_⟩) hHeld ?_ ?_
                      rotate_left
                      ·
                       rintro w' ⟨s0, s1, s2, s3, s4, s5, s6⟩
                       go_simp
                       with_reducible rfl
                      rotate_left
                      ·
                       simp only [Act.put, List.setIfInBounds_toArray, List.set_cons_zero, List.set_cons_succ, i64_w, i32_w]
                       rfl
                      refine pure_ (i := 6) (N := some 92) (v := ?_) (a' := ?_) #[true, true, true, true, true, true, true, false, true, false, true, false, false, false, false, false, false, false] rfl rfl (any_of HT_.out (by kernel_rfl)) (fun _ _ _ h => h) (Or.inl ⟨by rfl, ?_⟩) ?_ ?_
                      rotate_left
                      ·
                       intro w'
                       go_simp
                       with_reducible rfl
                      rotate_left
                      ·
                       simp only [Act.put, List.setIfInBounds_toArray, List.set_cons_zero, List.set_cons_succ, i64_w, i32_w]
                       rfl
                      refine take_ (i := 7) (N := some 93) (v := ?_) (a' := ?_) #[true, true, true, true, true, true, true, true, true, false, true, false, false, false, false, false, false, false] rfl rfl (take_ofW HT_.out HW_.out (by kernel_rfl)) (fun _ _ _ h => h) (Or.inl ⟨by rfl, ?_⟩) hHeld ?_ ?_
                      rotate_left
                      ·
                       rintro w' ⟨s0, s1, s2, s3, s4, s5, s6⟩
                       go_simp
                       with_reducible rfl
                      rotate_left
                      ·
                       simp only [Act.put, List.setIfInBounds_toArray, List.set_cons_zero, List.set_cons_succ, i64_w, i32_w]
                       rfl
                      refine pure_ (i := 9) (N := some 95) (v := ?_) (a' := ?_) #[true, true, true, true, true, true, true, true, true, true, true, false, false, false, false, false, false, false] rfl rfl (any_of HT_.out (by kernel_rfl)) (fun _ _ _ h => h) (Or.inl ⟨by rfl, ?_⟩) ?_ ?_
                      rotate_left
                      ·
                       intro w'
                       go_simp
                       with_reducible rfl
                      rotate_left
                      ·
                       simp only [Act.put, List.setIfInBounds_toArray, List.set_cons_zero, List.set_cons_succ, i64_w, i32_w]
                       rfl
                      refine pure_ (i := 11) (N := some 97) (v := ?_) (a' := ?_) #[true, true, true, true, true, true, true, true, true, true, true, true, false, false, false, false, false, false] rfl rfl (any_of HT_.out (by kernel_rfl)) (fun _ _ _ h => h) (Or.inl ⟨by rfl, ?_⟩) ?_ ?_
                      rotate_left
                      ·
                       intro w'
                       go_simp
                       with_reducible rfl
                      rotate_left
                      ·
                       simp only [Act.put, List.setIfInBounds_toArray, List.set_cons_zero, List.set_cons_succ, i64_w, i32_w]
                       rfl
                      refine pure_ (i := 12) (N := some 98) (v := ?_) (a' := ?_) #[true, true, true, true, true, true, true, true, true, true, true, true, true, false, false, false, false, false] rfl rfl (any_of HT_.out (by kernel_rfl)) (fun _ _ _ h => h) (Or.inl ⟨by rfl, ?_⟩) ?_ ?_
                      rotate_left
                      ·
                       intro w'
                       go_simp
                       with_reducible rfl
                      rotate_left
                      ·
                       simp only [Act.put, List.setIfInBounds_toArray, List.set_cons_zero, List.set_cons_succ, i64_w, i32_w]
                       rfl
                      refine pure_ (i := 13) (N := some 99) (v := ?_) (a' := ?_) #[true, true, true, true, true, true, true, true, true, true, true, true, true, true, false, false, false, false] rfl rfl (any_of HT_.out (by kernel_rfl)) (fun _ _ _ h => h) (Or.inl ⟨by rfl, ?_⟩) ?_ ?_
                      rotate_left
                      ·
                       intro w'
                       go_simp
                       with_reducible rfl
                      rotate_left
                      ·
                       simp only [Act.put, List.setIfInBounds_toArray, List.set_cons_zero, List.set_cons_succ, i64_w, i32_w]
                       rfl
                      refine take_ (i := 14) (N := some 100) (v := ?_) (a' := ?_) #[true, true, true, true, true, true, true, true, true, true, true, true, true, true, true, false, false, false] rfl rfl (take_ofW HT_.out HW_.out (by kernel_rfl)) (fun _ _ _ h => h) (Or.inl ⟨by rfl, ?_⟩) hHeld ?_ ?_
                      rotate_left
                      ·
                       rintro w' ⟨s0, s1, s2, s3, s4, s5, s6⟩
                       go_simp
                       with_reducible rfl
                      rotate_left
                      ·
                       simp only [Act.put, List.setIfInBounds_toArray, List.set_cons_zero, List.set_cons_succ, i64_w, i32_w]
                       rfl
                      refine last_ (i := 15) (N := some 101) #[true, true, true, true, true, true, true, true, true, true, true, true, true, true, true, true, false, false] rfl rfl (one_of HT_.out (by kernel_rfl)) (by decide) (fun K hK => ?_)
                      refine Kd.R_append_rows_step (Kd.int .i64) (w0 := w) w.heap.size (by rfl) (.tmp 87) (.tmp 100) 22 3 (.int .i64 0) 8 rfl Try.underlying22 info3 rfl (by decide) (by omega) u184001 x184001_3 ((rd_T28 t184 (ji117)).f1) _ _ _ (fun k_ => some k_ ≠ (.slice Ao102 y180.length co102 : Value).ownBlock) (fun _ => False) rfl rfl ?aO ?aR (fun _ _ h => h) (fun _ h => h.elim) ?aF ?aB ?aS ?aL ?_
                      (case aR => repeat (first | exact (by repeat (first | (with_reducible exact HR189_1.out) | (with_reducible refine Kd.C_alloc ?_ _) | (with_reducible refine Kd.C_drewN ?_ _) | (with_reducible refine Kd.C_drew ?_) | exact HR189_1.out)) | (with_reducible refine Kd.C_alloc ?_ _) | (with_reducible refine Kd.C_drewN ?_ _) | (with_reducible refine Kd.C_drew ?_)))
                      (case aB => exact (bS5 HB.out GE164.out GE165.out GE166.out GE167.out GE183.out))
                      (case aF => exact (fun k_ hk => Kd.fresh' (Kd.R_lt (RU HO_184000.out)) k_ hk))
                      (case aO => exact (RU HO_184001.out))
                      (case aS => exact (below_size (bS5 HB.out GE164.out GE165.out GE166.out GE167.out GE183.out)))
                      (case aL => have := LMc120.out; omega)
                      intro v191 w128 ho hb hg hat
                      rw [← Ny190.out] at ho
                      have n0_ := Aside0.mk (Kd.S_after (ok := (fun k_ => some k_ ≠ (.slice Ao102 y180.length co102 : Value).ownBlock ∧ k_ ≠ gb164 ∧ k_ ≠ gb165 ∧ k_ ≠ gb166 ∧ k_ ≠ gb167 ∧ k_ ≠ gb183)) (by refine SU ?_; exact Kd.S_mono HO_10.out (fun _ hk => ⟨⟨hk.1, ⟨hk.2.2.1, ⟨hk.2.2.2.1, ⟨hk.2.2.2.2.1, ⟨hk.2.2.2.2.2.1, hk.2.2.2.2.2.2⟩⟩⟩⟩⟩, hk.2.1⟩)) hg hat)
                      have n1_ := Aside0.mk (Kd.R_after (ok := (fun _ => True)) (by refine RU ?_; exact Kd.R_mono HO_184000.out (fun _ hk => ⟨trivial, hk⟩)) hg hat)
                      have n2_ := Aside0.mk (blk_grown (g := gb164) (o := .cells #[.slice A0_0 l0_0.length c0_0, .slice (some ad188) l0_1.length c0_1] 28 (0, 0)) (kU BK164.out) hg (Kd.R_ne HO_184001.out BK164.out (by decide)))
                      have n3_ := Aside0.mk (blk_grown (g := gb165) (o := .cells #[.slice (some ad170) l1_0.length c1_0, .slice A1_1 l1_1.length c1_1] 28 (0, 0)) (kU BK165.out) hg (Kd.R_ne HO_184001.out BK165.out (by decide)))
                      have n4_ := Aside0.mk (blk_grown (g := gb166) (o := .cells #[.slice none 0 0, .slice none 0 0] 28 (0, 0)) (kU BK166.out) hg (Kd.R_ne HO_184001.out BK166.out (by decide)))
                      have n5_ := Aside0.mk (blk_grown (g := gb167) (o := .cells #[.slice none 0 0, .slice none 0 0] 28 (0, 0)) (kU BK167.out) hg (Kd.R_ne HO_184001.out BK167.out (by decide)))
                      have n6_ := Aside0.mk (blk_grown (g := gb183) (o := .cells #[.slice Ao102 y180.length co102, u184001] 28 (0, 0)) (kU BK183.out) hg (Kd.R_ne HO_184001.out BK183.out (by decide)))
                      have n7_ := Aside0.mk (Kd.R_after (ok := (fun k_ => some k_ ≠ (.slice (some ad189) t184.length co127 : Value).ownBlock ∧ some k_ ≠ (.slice Ao102 y180.length co102 : Value).ownBlock ∧ k_ ≠ gb164 ∧ k_ ≠ gb165 ∧ k_ ≠ gb166 ∧ k_ ≠ gb167 ∧ k_ ≠ gb183)) (by refine RU ?_; exact Kd.R_mono HL189_0.out (fun _ hk => ⟨⟨hk.2, ⟨hk.1.1, ⟨hk.1.2.2.1, ⟨hk.1.2.2.2.1, ⟨hk.1.2.2.2.2.1, ⟨hk.1.2.2.2.2.2.1, hk.1.2.2.2.2.2.2⟩⟩⟩⟩⟩⟩, hk.1.2.1⟩)) hg hat)
                      have n8_ := Aside0.mk (Kd.R_after (ok := (fun k_ => some k_ ≠ (.slice (some ad189) t184.length co127 : Value).ownBlock ∧ some k_ ≠ (.slice Ao102 y180.length co102 : Value).ownBlock ∧ k_ ≠ gb164 ∧ k_ ≠ gb165 ∧ k_ ≠ gb166 ∧ k_ ≠ gb167 ∧ k_ ≠ gb183)) (by refine RU ?_; exact Kd.R_mono HL189_1.out (fun _ hk => ⟨⟨hk.2, ⟨hk.1.1, ⟨hk.1.2.2.1, ⟨hk.1.2.2.2.1, ⟨hk.1.2.2.2.2.1, ⟨hk.1.2.2.2.2.2.1, hk.1.2.2.2.2.2.2⟩⟩⟩⟩⟩⟩, hk.1.2.1⟩)) hg hat)
                      have n9_ := Aside0.mk (hb)
                      have n10_ := Aside0.mk (ho)
                      clear HO_10 HO_184000 BK164 BK165 BK166 BK167 BK183 HL189_0 HL189_1 HB HO_184001
                      have HO_10 := n0_
                      have HO_184000 := n1_
                      have BK164 := n2_
                      have BK165 := n3_
                      have BK166 := n4_
                      have BK167 := n5_
                      have BK183 := n6_
                      have HL189_0 := n7_
                      have HL189_1 := n8_
                      have HB := n9_
                      have HO192 := n10_
                      clear n0_ n1_ n2_ n3_ n4_ n5_ n6_ n7_ n8_ n9_ n10_
                      clear ho hb hg hat
                      obtain ⟨Ao129, co129, eo129⟩ := Kd.R_slice HO192.out
                      (first | subst eo129 | (injection eo129 with f1_ f2_ f3_; have f4_ := f1_.symm; have f5_ := f3_.symm; clear f1_ f2_ f3_; subst f4_; subst f5_))
                      refine hK.out _ _ ?_
                      clear hK K
                      refine norm_ (a' := ?_) ?_ ?_
                      rotate_left
                      ·
                       show Act.put _ (some 101) _ = _
                       simp only [Act.put, List.setIfInBounds_toArray, List.set_cons_zero, List.set_cons_succ, i64_w, i32_w]
                       rfl
                      refine pure_ (i := 16) (N := some 102) (v := ?_) (a' := ?_) #[true, true, true, true, true, true, true, true, true, true, true, true, true, true, true, true, true, false] rfl rfl (any_of HT_.out (by kernel_rfl)) (fun _ _ _ h => h) (Or.inl ⟨by rfl, ?_⟩) ?_ ?_
                      rotate_left
                      ·
                       intro w'
                       go_simp
                       with_reducible rfl
                      rotate_left
                      ·
                       simp only [Act.put, List.setIfInBounds_toArray, List.set_cons_zero, List.set_cons_succ, i64_w, i32_w]
                       rfl
                      refine last_ (i := 17) (N := none) #[true, true, true, true, true, true, true, true, true, true, true, true, true, true, true, true, true, true] rfl rfl (one_of HT_.out (by kernel_rfl)) (by decide) (fun K hK => ?_)
                      have hs130 : w128.cell? ⟨gb183, 1, none⟩ = some (u184001) := (blk_cell BK183.out 1).trans rfl
                      have hfs130 := blk_frozen BK183.out 1
                      have hns130_0 := NB164_183.out
                      have hns130_1 := NB165_183.out
                      have hns130_2 := NB166_183.out
                      have hns130_3 := NB167_183.out
                      have hms130_0 := NB183_164.out
                      have hms130_1 := NB183_165.out
                      have hms130_2 := NB183_166.out
                      have hms130_3 := NB183_167.out
                      refine skip_ (w1 := ?_) (by rfl) rfl ?_ ?_
                      rotate_left
                      ·
                       go_simp
                       rfl
                      refine hK.out _ _ ?_
                      clear hK K
                      refine done_ (done_of HT_.out (by kernel_rfl)) ?_
                      try go_wp2
                      go_roundg k3
                      case measure => have := HJ2.out; have := HK2.out; have := HK3.out; omega
                      case rel => exact ⟨(wrap64 (x11_3 + 1)), (y190), (.slice Ao129 y190.length co129), (by first | rfl | (simp; done) | (simp [*]; done)), H', ⟨by have := HJ2.out; have := HK2.out; have := HK3.out; omega⟩, ⟨by refine SU ?_; exact Kd.S_mono (Kd.S_far (p := ⟨gb183, 1, none⟩) (Kd.S_mono HO_10.out (fun k_ hk => (⟨hk, hk.1.2.2.2.2.2⟩ : _ ∧ k_ ≠ gb183))) (fun _ hk => hk.2) (.slice Ao129 y190.length co129)) (fun _ hk => ⟨hk.1.1.1, ⟨hk.1.2, ⟨hk.1.1.2.1, ⟨hk.1.1.2.2.1, ⟨hk.1.1.2.2.2.1, ⟨hk.1.1.2.2.2.2.1, hk.1.1.2.2.2.2.2⟩⟩⟩⟩⟩⟩)⟩, ⟨by refine RU ?_; exact Kd.R_mono (Kd.R_far (p := ⟨gb183, 1, none⟩) (Kd.R_types HO_184000.out BK183.out (by decide)) (fun _ hk => hk.2) (.slice Ao129 y190.length co129)) (fun _ hk => hk.1.2)⟩, ⟨by refine RU ?_; exact Kd.R_mono (Kd.R_far (p := ⟨gb183, 1, none⟩) (Kd.R_types HO192.out BK183.out (by decide)) (fun _ hk => hk.2) (.slice Ao129 y190.length co129)) (fun _ hk => hk.1)⟩, ⟨by refine kU ?_; refine blk_far ?_ NB164_183.out _; refine kU ?_; exact BK164.out⟩, ⟨by refine kU ?_; refine blk_far ?_ NB165_183.out _; refine kU ?_; exact BK165.out⟩, ⟨by refine kU ?_; refine blk_far ?_ NB166_183.out _; refine kU ?_; exact BK166.out⟩, ⟨by refine kU ?_; refine blk_far ?_ NB167_183.out _; refine kU ?_; exact BK167.out⟩, ⟨by refine kU ?_; refine blk_put (cs := #[.slice Ao102 y180.length co102, u184001]) ?_ 1 _ rfl; refine kU ?_; exact BK183.out⟩, ⟨by exact bS5 HB.out GE164.out GE165.out GE166.out GE167.out GE183.out⟩⟩
                     ·
                      rw [if_neg c120] at H
                      exact absurd H (by simp)
                    ·
                     rw [if_neg c119] at H
                     exact absurd H (by simp)
                   ·
                    rw [if_neg c118] at H
                    exact absurd H (by simp)
                 ·
                  rw [if_neg c115] at H
                  exact absurd H (by simp)
                ·
                 rw [if_neg c114] at H
                 have c114b0 : decide (x11_3 < (l0_1.length : Int)) = false := decide_eq_false c114
                 clear c114
                 simp only [Option.some.injEq, Prod.mk.injEq] at H
                 obtain ⟨rfl, rfl, rfl⟩ := H
                 have hnb131 := NB164_165.out
                 have hnc131 := NB165_164.out
                 have hnb132 := NB164_166.out
                 have hnc132 := NB166_164.out
                 have hnb133 := NB164_167.out
                 have hnc133 := NB167_164.out
                 have hnb134 := NB164_183.out
                 have hnc134 := NB183_164.out
                 have hcz135_0 : wr.cell? ⟨gb164, 0, none⟩ = some (.slice A0_0 l0_0.length c0_0) := (blk_cell BK164.out 0).trans rfl
                 have hcz135_1 : wr.cell? ⟨gb164, 1, none⟩ = some (.slice A0_1 l0_1.length c0_1) := (blk_cell BK164.out 1).trans rfl
                 have hfz135_0 := blk_frozen BK164.out 0
                 have hfz135_1 := blk_frozen BK164.out 1
                 have hnb136 := NB183_165.out
                 have hnc136 := NB165_183.out
                 have hnb137 := NB183_166.out
                 have hnc137 := NB166_183.out
                 have hnb138 := NB183_167.out
                 have hnc138 := NB167_183.out
                 have hcz139_0 : wr.cell? ⟨gb183, 0, none⟩ = some (.slice Ao102 y180.length co102) := (blk_cell BK183.out 0).trans rfl
                 have hcz139_1 : wr.cell? ⟨gb183, 1, none⟩ = some (u184001) := (blk_cell BK183.out 1).trans rfl
                 have hfz139_0 := blk_frozen BK183.out 0
                 have hfz139_1 := blk_frozen BK183.out 1
                 have hnb140 := NB166_165.out
                 have hnc140 := NB165_166.out
                 have hnb141 := NB166_167.out
                 have hnc141 := NB167_166.out
                 have hcz142_0 : wr.cell? ⟨gb166, 0, none⟩ = some (.slice none 0 0) := (blk_cell BK166.out 0).trans rfl
                 have hcz142_1 : wr.cell? ⟨gb166, 1, none⟩ = some (.slice none 0 0) := (blk_cell BK166.out 1).trans rfl
                 have hfz142_0 := blk_frozen BK166.out 0
                 have hfz142_1 := blk_frozen BK166.out 1
                 obtain ⟨Ao143, co143, eo143⟩ := Kd.R_slice HO_184001.out
                 subst eo143
                 go_wp2
                 refine bodyPost_ret (results_ct rfl _ _ gb166 28 #[.slice Ao102 y180.length co102, .slice Ao143 x184001_3.length co143] (0, 0) _ rfl (by refine kU ?_; refine blk_put (cs := #[.slice Ao102 y180.length co102, .slice none 0 0]) ?_ 1 _ rfl; refine kU ?_; refine blk_put (cs := #[.slice none 0 0, .slice none 0 0]) ?_ 0 _ rfl; refine kU ?_; exact BK166.out) Try.underlying28 rfl (by kernel_rfl)) rfl ?_
                 exact ⟨_, _, by first | rfl | (simp [errW_none, errW_some] <;> rfl) | (simp [*, errW_none, errW_some] <;> rfl), by refine RU ?_; exact Kd.R_mono (Kd.R_far (p := ⟨gb166, 1, none⟩) (Kd.R_far (p := ⟨gb166, 0, none⟩) (Kd.R_types HO_184000.out BK166.out (by decide)) (fun _ hk => hk.2) (.slice Ao102 y180.length co102)) (fun _ hk => hk.2) (.slice Ao143 x184001_3.length co143)) (fun _ hk => hk.1), by refine RU ?_; exact Kd.R_mono (Kd.R_far (p := ⟨gb166, 1, none⟩) (Kd.R_far (p := ⟨gb166, 0, none⟩) (Kd.R_types HO_184001.out BK166.out (by decide)) (fun _ hk => hk.2) (.slice Ao102 y180.length co102)) (fun _ hk => hk.2) (.slice Ao143 x184001_3.length co143)) (fun _ hk => hk.1), by exact bS5 HB.out GE164.out GE165.out GE166.out GE167.out GE183.out⟩
             ·
              replace c88 := Bool.eq_false_iff.mpr c88
              subst c88
              have H1 : (some (([] : List Int), ([] : List Int), 6)) = some (r1, r2, r3) := by rw [if_neg (show ¬ (false = true) by decide)] at H; exact H
              clear H
              have H := H1
              clear H1
              simp only [Option.some.injEq, Prod.mk.injEq] at H
              obtain ⟨rfl, rfl, rfl⟩ := H
              have hnb144 := NB164_165.out
              have hnc144 := NB165_164.out
              have hnb145 := NB164_166.out
              have hnc145 := NB166_164.out
              have hnb146 := NB164_167.out
              have hnc146 := NB167_164.out
              have hcz147_0 : wr.cell? ⟨gb164, 0, none⟩ = some (.slice A0_0 l0_0.length c0_0) := (blk_cell BK164.out 0).trans rfl
              have hcz147_1 : wr.cell? ⟨gb164, 1, none⟩ = some (.slice A0_1 l0_1.length c0_1) := (blk_cell BK164.out 1).trans rfl
              have hfz147_0 := blk_frozen BK164.out 0
              have hfz147_1 := blk_frozen BK164.out 1
              try go_wp2
              replace BK164 := Aside0.mk (blk_drew BK164.out)
              replace BK165 := Aside0.mk (blk_drew BK165.out)
              replace BK166 := Aside0.mk (blk_drew BK166.out)
              replace BK167 := Aside0.mk (blk_drew BK167.out)
              replace HB := Aside0.mk (below_drew1 HB.out)
              obtain ⟨i0149, hi0149, _, hsz149, _⟩ := info_parts info3
              (try clear hcut94)
              obtain ⟨A149, hcut149, hA149, hC149⟩ := print_drop_of (P := Try.prog) (Value.int .i64) 0 22 3 .i64 Try.underlying22 hi0149 hsz149 (some ad170) c1_0 l1_0 1 (by omega) (of_decide_eq_true (by first | (with_reducible assumption) | assumption)) HC1_0.out
              have HR179 := Aside0.mk (Kd.C_of_reads (h1 := fun _ => rfl) (hA149 _ (Kd.reads_of_C HR1_0.out)))
              have HC179 := Aside0.mk hC149
              clear hA149 hC149 hi0149 hsz149
              refine start_ (n := 11) (S := fun w' => w'.cell? ⟨gb164, 0, none⟩ = some (.slice A0_0 l0_0.length c0_0) ∧ w'.cell? ⟨gb164, 1, none⟩ = some (.slice A0_1 l0_1.length c0_1) ∧ w'.cell? ⟨gb165, 0, none⟩ = some (.slice (some ad170) l1_0.length c1_0) ∧ w'.cell? ⟨gb165, 1, none⟩ = some (.slice A1_1 l1_1.length c1_1)) (ds := []) #[false, false, false, false, false, false, false, false, false, false, false] (by kernel_rfl) rfl rfl ⟨(blk_cell BK164.out 0).trans rfl, (blk_cell BK164.out 1).trans rfl, (blk_cell BK165.out 0).trans rfl, (blk_cell BK165.out 1).trans rfl⟩ (fun hHeld => ?_); refine with_tabW spec_Pick.tab12 spec_Pick.bits12 (fun HT_ HW_ => ?_)
              generalize wr.drew = w148 at BK164 BK165 BK166 BK167 HB HR179 hHeld ⊢
              refine pure_ (i := 1) (N := some 64) (v := ?_) (a' := ?_) #[false, true, false, false, false, false, false, false, false, false, false] rfl rfl (any_of HT_.out (by kernel_rfl)) (fun _ _ _ h => h) (Or.inl ⟨by rfl, ?_⟩) ?_ ?_
              rotate_left
              ·
               intro w'
               go_simp
               with_reducible rfl
              rotate_left
              ·
               simp only [Act.put, List.setIfInBounds_toArray, List.set_cons_zero, List.set_cons_succ, i64_w, i32_w]
               rfl
              refine pure_ (i := 4) (N := some 67) (v := ?_) (a' := ?_) #[false, true, false, false, true, false, false, false, false, false, false] rfl rfl (any_of HT_.out (by kernel_rfl)) (fun _ _ _ h => h) (Or.inl ⟨by rfl, ?_⟩) ?_ ?_
              rotate_left
              ·
               intro w'
               go_simp
               with_reducible rfl
              rotate_left
              ·
               simp only [Act.put, List.setIfInBounds_toArray, List.set_cons_zero, List.set_cons_succ, i64_w, i32_w]
               rfl
              refine take_ (i := 2) (N := some 65) (v := ?_) (a' := ?_) #[false, true, true, false, true, false, false, false, false, false, false] rfl rfl (take_ofW HT_.out HW_.out (by kernel_rfl)) (fun _ _ _ h => h) (Or.inl ⟨by rfl, ?_⟩) hHeld ?_ ?_
              rotate_left
              ·
               rintro w' ⟨s0, s1, s2, s3⟩
               go_simp
               with_reducible rfl
              rotate_left
              ·
               simp only [Act.put, List.setIfInBounds_toArray, List.set_cons_zero, List.set_cons_succ, i64_w, i32_w]
               rfl
              refine take_ (i := 5) (N := some 68) (v := ?_) (a' := ?_) #[false, true, true, false, true, true, false, false, false, false, false] rfl rfl (take_ofW HT_.out HW_.out (by kernel_rfl)) (fun _ _ _ h => h) (Or.inl ⟨by rfl, ?_⟩) hHeld ?_ ?_
              rotate_left
              ·
               rintro w' ⟨s0, s1, s2, s3⟩
               go_simp
               with_reducible rfl
              rotate_left
              ·
               simp only [Act.put, List.setIfInBounds_toArray, List.set_cons_zero, List.set_cons_succ, i64_w, i32_w]
               rfl
              refine pure_ (i := 6) (N := some 69) (v := ?_) (a' := ?_) #[false, true, true, false, true, true, true, false, false, false, false] rfl rfl (any_of HT_.out (by kernel_rfl)) (fun _ _ _ h => h) (Or.inl ⟨by rfl, ?_⟩) ?_ ?_
              rotate_left
              ·
               intro w'
               go_simp
               with_reducible rfl
              rotate_left
              ·
               simp only [Act.put, List.setIfInBounds_toArray, List.set_cons_zero, List.set_cons_succ, i64_w, i32_w]
               rfl
              refine join_ (σ := Value × Value × Value × Nat) 1 #[true, true, true, true, true, true, true, true, true, true, false] (fun s_ => [(63, s_.1), (66, s_.2.1), (70, s_.2.2.1), (9, .pointer (some ⟨s_.2.2.2, 0, none⟩)), (71, .agg #[s_.2.2.1, .slice none 0 0])]) (fun s_ w' => (w'.cell? ⟨gb164, 0, none⟩ = some (.slice A0_0 l0_0.length c0_0) ∧ w'.cell? ⟨gb164, 1, none⟩ = some (.slice A0_1 l0_1.length c0_1) ∧ w'.cell? ⟨gb165, 0, none⟩ = some (.slice (some ad170) l1_0.length c1_0) ∧ w'.cell? ⟨gb165, 1, none⟩ = some (.slice A1_1 l1_1.length c1_1)) ∧ (Kd.R (Kd.int .i64) 3 w' w.heap.size (fun _ => True) s_.2.2.1 y180) ∧ (w'.heap[gb164]? = some (.cells #[.slice A0_0 l0_0.length c0_0, .slice A0_1 l0_1.length c0_1] 28 (0, 0))) ∧ (w'.heap[gb165]? = some (.cells #[.slice (some ad170) l1_0.length c1_0, .slice A1_1 l1_1.length c1_1] 28 (0, 0))) ∧ (w'.heap[gb166]? = some (.cells #[.slice none 0 0, .slice none 0 0] 28 (0, 0))) ∧ (w'.heap[gb167]? = some (.cells #[.slice none 0 0, .slice none 0 0] 28 (0, 0))) ∧ (w'.heap[s_.2.2.2]? = some (.cells #[.slice none 0 0, .slice none 0 0] 28 (0, 0))) ∧ (w.heap.size ≤ s_.2.2.2) ∧ (w.heap.size ≤ s_.2.2.2) ∧ (gb164 ≠ s_.2.2.2) ∧ (s_.2.2.2 ≠ gb164) ∧ (gb165 ≠ s_.2.2.2) ∧ (s_.2.2.2 ≠ gb165) ∧ (gb166 ≠ s_.2.2.2) ∧ (s_.2.2.2 ≠ gb166) ∧ (gb167 ≠ s_.2.2.2) ∧ (s_.2.2.2 ≠ gb167) ∧ (Below w.heap.size w w')) ?_ ?_
              rotate_left
              ·
               intro hCont
               refine two_ (i := 0) (j := 9) (Ni := some 63) (Nj := some 9) #[true, true, true, false, true, true, true, false, false, false, false] #[false, true, true, false, true, true, true, false, false, true, false] rfl rfl rfl rfl (two_of HT_.out (by kernel_rfl)) (by decide) (by decide) (fun K hK => ?_) (fun K hK => ?_)
               ·
                skip
                refine Kd.R_lit_step (Kd.int .i64) _ 3 ?hg (N := 63) ?hd (xs := ([] : List Int)) (inner := []) (ok := fun _ => True) (okp := fun _ => True) ?hr ?hp (fun _ hk => hk) trivial (Below.refl _ _) (Nat.le_refl _) (by simp) ?_; (case hd => rfl); (case hg => rfl); (case hr => first | (go_simp; done) | (go_simp; rfl)); (case hp => exact (Reps.none _ _))
                intro v174 w150 ho151 hb hg_ hnew_
                clear hg_ hnew_
                (first | rw [← Ny173.out] at ho151 | (simp only [Int.reduceToNat] at ho151; rw [← Ny173.out] at ho151))
                have HO175 := Aside0.mk (Kd.R_lower ho151 (below_size (bS4 HB.out GE164.out GE165.out GE166.out GE167.out)))
                replace BK164 := Aside0.mk (kB BK164.out hb)
                replace BK165 := Aside0.mk (kB BK165.out hb)
                replace BK166 := Aside0.mk (kB BK166.out hb)
                replace BK167 := Aside0.mk (kB BK167.out hb)
                replace HB := Aside0.mk (below_step (bS4 HB.out GE164.out GE165.out GE166.out GE167.out) hb)
                clear hb ho151
                refine hK.out _ _ ⟨(blk_cell BK164.out 0).trans rfl, (blk_cell BK164.out 1).trans rfl, (blk_cell BK165.out 0).trans rfl, (blk_cell BK165.out 1).trans rfl⟩ (fun hHeld => ?_)
                clear hK K
                refine norm_ (a' := ?_) ?_ ?_
                rotate_left
                ·
                 show Act.put _ (some 63) _ = _
                 simp only [Act.put, List.setIfInBounds_toArray, List.set_cons_zero, List.set_cons_succ, i64_w, i32_w]
                 rfl
                refine two_ (i := 3) (j := 9) (Ni := some 66) (Nj := some 9) #[true, true, true, true, true, true, true, false, false, false, false] #[true, true, true, false, true, true, true, false, false, true, false] rfl rfl rfl rfl (two_of HT_.out (by kernel_rfl)) (by decide) (by decide) (fun K hK => ?_) (fun K hK => ?_)
                ·
                 skip
                 refine Kd.R_append_rows_step (Kd.int .i64) (w0 := w) w.heap.size (by rfl) (.tmp 63) (.tmp 65) 22 3 (.int .i64 0) 8 rfl Try.underlying22 info3 rfl (by decide) (by omega) v174 y173 l0_0 _ _ _ (fun _ => True) (fun _ => False) rfl rfl ?aO ?aR (fun _ _ h => h) (fun _ h => h.elim) ?aF ?aB ?aS ?aL ?_
                 (case aR => exact cU (Kd.C_below HR0_0.out HB.out))
                 (case aB => exact (bS4 HB.out GE164.out GE165.out GE166.out GE167.out))
                 (case aF => exact (fun _ _ => trivial))
                 (case aO => exact (RU HO175.out))
                 (case aS => exact (below_size (bS4 HB.out GE164.out GE165.out GE166.out GE167.out)))
                 (case aL => have := LMc83.out; omega)
                 intro v177 w152 ho hb hg hat
                 rw [← Ny176.out] at ho
                 have n0_ := Aside0.mk (blk_grown (g := gb164) (o := .cells #[.slice A0_0 l0_0.length c0_0, .slice A0_1 l0_1.length c0_1] 28 (0, 0)) (kU BK164.out) hg (Kd.R_ne HO175.out BK164.out (by decide)))
                 have n1_ := Aside0.mk (blk_grown (g := gb165) (o := .cells #[.slice (some ad170) l1_0.length c1_0, .slice A1_1 l1_1.length c1_1] 28 (0, 0)) (kU BK165.out) hg (Kd.R_ne HO175.out BK165.out (by decide)))
                 have n2_ := Aside0.mk (blk_grown (g := gb166) (o := .cells #[.slice none 0 0, .slice none 0 0] 28 (0, 0)) (kU BK166.out) hg (Kd.R_ne HO175.out BK166.out (by decide)))
                 have n3_ := Aside0.mk (blk_grown (g := gb167) (o := .cells #[.slice none 0 0, .slice none 0 0] 28 (0, 0)) (kU BK167.out) hg (Kd.R_ne HO175.out BK167.out (by decide)))
                 have n4_ := Aside0.mk (hb)
                 have n5_ := Aside0.mk (ho)
                 clear BK164 BK165 BK166 BK167 HB HO175
                 have BK164 := n0_
                 have BK165 := n1_
                 have BK166 := n2_
                 have BK167 := n3_
                 have HB := n4_
                 have HO178 := n5_
                 clear n0_ n1_ n2_ n3_ n4_ n5_
                 clear ho hb hg hat
                 refine hK.out _ _ ⟨(blk_cell BK164.out 0).trans rfl, (blk_cell BK164.out 1).trans rfl, (blk_cell BK165.out 0).trans rfl, (blk_cell BK165.out 1).trans rfl⟩ (fun hHeld => ?_)
                 clear hK K
                 refine norm_ (a' := ?_) ?_ ?_
                 rotate_left
                 ·
                  show Act.put _ (some 66) _ = _
                  simp only [Act.put, List.setIfInBounds_toArray, List.set_cons_zero, List.set_cons_succ, i64_w, i32_w]
                  rfl
                 refine two_ (i := 7) (j := 9) (Ni := some 70) (Nj := some 9) #[true, true, true, true, true, true, true, true, false, false, false] #[true, true, true, true, true, true, true, false, false, true, false] rfl rfl rfl rfl (two_of HT_.out (by kernel_rfl)) (by decide) (by decide) (fun K hK => ?_) (fun K hK => ?_)
                 ·
                  skip
                  refine Kd.R_append_rows_step (Kd.int .i64) (w0 := w) w.heap.size (by rfl) (.tmp 66) (.tmp 69) 22 3 (.int .i64 0) 8 rfl Try.underlying22 info3 rfl (by decide) (by omega) v177 y176 (l1_0.drop 1) _ _ _ (fun _ => True) (fun _ => False) rfl rfl ?aO ?aR (fun _ _ h => h) (fun _ h => h.elim) ?aF ?aB ?aS ?aL ?_
                  (case aR => first | (rw [← show (l1_0.drop 1).length = (l1_0.length - 1) from List.length_drop]; exact cU (Kd.C_below HR179.out HB.out)) | (exact cU (Kd.C_below HR179.out HB.out)))
                  (case aB => exact (bS4 HB.out GE164.out GE165.out GE166.out GE167.out))
                  (case aF => exact (fun _ _ => trivial))
                  (case aO => exact (RU HO178.out))
                  (case aS => exact (below_size (bS4 HB.out GE164.out GE165.out GE166.out GE167.out)))
                  (case aL => have := LMc85.out; have hlx_ := (show (l1_0.drop 1).length = (l1_0.length - 1) from List.length_drop); omega)
                  intro v181 w153 ho hb hg hat
                  rw [← Ny180.out] at ho
                  have n0_ := Aside0.mk (blk_grown (g := gb164) (o := .cells #[.slice A0_0 l0_0.length c0_0, .slice A0_1 l0_1.length c0_1] 28 (0, 0)) (kU BK164.out) hg (Kd.R_ne HO178.out BK164.out (by decide)))
                  have n1_ := Aside0.mk (blk_grown (g := gb165) (o := .cells #[.slice (some ad170) l1_0.length c1_0, .slice A1_1 l1_1.length c1_1] 28 (0, 0)) (kU BK165.out) hg (Kd.R_ne HO178.out BK165.out (by decide)))
                  have n2_ := Aside0.mk (blk_grown (g := gb166) (o := .cells #[.slice none 0 0, .slice none 0 0] 28 (0, 0)) (kU BK166.out) hg (Kd.R_ne HO178.out BK166.out (by decide)))
                  have n3_ := Aside0.mk (blk_grown (g := gb167) (o := .cells #[.slice none 0 0, .slice none 0 0] 28 (0, 0)) (kU BK167.out) hg (Kd.R_ne HO178.out BK167.out (by decide)))
                  have n4_ := Aside0.mk (hb)
                  have n5_ := Aside0.mk (ho)
                  clear BK164 BK165 BK166 BK167 HB HO178
                  have BK164 := n0_
                  have BK165 := n1_
                  have BK166 := n2_
                  have BK167 := n3_
                  have HB := n4_
                  have HO182 := n5_
                  clear n0_ n1_ n2_ n3_ n4_ n5_
                  clear ho hb hg hat
                  obtain ⟨Ao154, co154, eo154⟩ := Kd.R_slice HO182.out
                  (first | subst eo154 | (injection eo154 with f1_ f2_ f3_; have f4_ := f1_.symm; have f5_ := f3_.symm; clear f1_ f2_ f3_; subst f4_; subst f5_))
                  refine hK.out _ _ ⟨(blk_cell BK164.out 0).trans rfl, (blk_cell BK164.out 1).trans rfl, (blk_cell BK165.out 0).trans rfl, (blk_cell BK165.out 1).trans rfl⟩ (fun hHeld => ?_)
                  clear hK K
                  refine norm_ (a' := ?_) ?_ ?_
                  rotate_left
                  ·
                   show Act.put _ (some 70) _ = _
                   simp only [Act.put, List.setIfInBounds_toArray, List.set_cons_zero, List.set_cons_succ, i64_w, i32_w]
                   rfl
                  refine pure_ (i := 8) (N := some 71) (v := ?_) (a' := ?_) #[true, true, true, true, true, true, true, true, true, false, false] rfl rfl (any_of HT_.out (by kernel_rfl)) (fun _ _ _ h => h) (Or.inl ⟨by rfl, ?_⟩) ?_ ?_
                  rotate_left
                  ·
                   intro w'
                   go_simp
                   with_reducible rfl
                  rotate_left
                  ·
                   simp only [Act.put, List.setIfInBounds_toArray, List.set_cons_zero, List.set_cons_succ, i64_w, i32_w]
                   rfl
                  refine one_ (i := 9) (N := some 9) #[true, true, true, true, true, true, true, true, true, true, false] rfl rfl (one_of HT_.out (by kernel_rfl)) (by decide) (fun K hK => ?_)
                  refine box_step ?hg (N := 9) ?hd (cs := #[.slice none 0 0, .slice none 0 0]) (t := 28) ?hr ?_; (case hd => rfl); (case hg => rfl); (case hr => first | (go_simp; done) | (go_simp; rfl))
                  intro gb183 hg w155 hbox hb
                  replace HO182 := Aside0.mk (Kd.R_below (RU HO182.out) hb)
                  have BK183 := Aside0.mk (hbox)
                  have GW183 := Aside0.mk ((by rw [hg]; exact (below_size (bS4 HB.out GE164.out GE165.out GE166.out GE167.out)) : w.heap.size ≤ gb183))
                  have GE183 := Aside0.mk ((by rw [hg]; exact (below_size (bS4 HB.out GE164.out GE165.out GE166.out GE167.out)) : w.heap.size ≤ gb183))
                  replace HB := Aside0.mk (below_step (bS4 HB.out GE164.out GE165.out GE166.out GE167.out) hb)
                  have NB164_183 := Aside0.mk (kN BK164.out hg)
                  have NB183_164 := Aside0.mk (kM BK164.out hg)
                  replace BK164 := Aside0.mk (kB BK164.out hb)
                  have NB165_183 := Aside0.mk (kN BK165.out hg)
                  have NB183_165 := Aside0.mk (kM BK165.out hg)
                  replace BK165 := Aside0.mk (kB BK165.out hb)
                  have NB166_183 := Aside0.mk (kN BK166.out hg)
                  have NB183_166 := Aside0.mk (kM BK166.out hg)
                  replace BK166 := Aside0.mk (kB BK166.out hb)
                  have NB167_183 := Aside0.mk (kN BK167.out hg)
                  have NB183_167 := Aside0.mk (kM BK167.out hg)
                  replace BK167 := Aside0.mk (kB BK167.out hb)
                  clear hb hbox hg
                  refine hK.out _ _ ⟨(blk_cell BK164.out 0).trans rfl, (blk_cell BK164.out 1).trans rfl, (blk_cell BK165.out 0).trans rfl, (blk_cell BK165.out 1).trans rfl⟩ (fun hHeld => ?_)
                  clear hK K
                  refine norm_ (a' := ?_) ?_ ?_
                  rotate_left
                  ·
                   show Act.put _ (some 9) _ = _
                   simp only [Act.put, List.setIfInBounds_toArray, List.set_cons_zero, List.set_cons_succ, i64_w, i32_w]
                   rfl
                  exact norm_ (by simp only [putAll, Act.put, List.setIfInBounds_toArray, List.set_cons_zero, List.set_cons_succ]) (hCont (v174, v177, .slice Ao154 y180.length co154, gb183) _ ⟨hHeld, (RU HO182.out), (kU BK164.out), (kU BK165.out), (kU BK166.out), (kU BK167.out), (kU BK183.out), GW183.out, GE183.out, NB164_183.out, NB183_164.out, NB165_183.out, NB183_165.out, NB166_183.out, NB183_166.out, NB167_183.out, NB183_167.out, (bS5 HB.out GE164.out GE165.out GE166.out GE167.out GE183.out)⟩)
                 ·
                  skip
                  refine box_step ?hg (N := 9) ?hd (cs := #[.slice none 0 0, .slice none 0 0]) (t := 28) ?hr ?_; (case hd => rfl); (case hg => rfl); (case hr => first | (go_simp; done) | (go_simp; rfl))
                  intro gb183 hg w153 hbox hb
                  replace HO178 := Aside0.mk (Kd.R_below (RU HO178.out) hb)
                  have BK183 := Aside0.mk (hbox)
                  have GW183 := Aside0.mk ((by rw [hg]; exact (below_size (bS4 HB.out GE164.out GE165.out GE166.out GE167.out)) : w.heap.size ≤ gb183))
                  have GE183 := Aside0.mk ((by rw [hg]; exact (below_size (bS4 HB.out GE164.out GE165.out GE166.out GE167.out)) : w.heap.size ≤ gb183))
                  replace HB := Aside0.mk (below_step (bS4 HB.out GE164.out GE165.out GE166.out GE167.out) hb)
                  have NB164_183 := Aside0.mk (kN BK164.out hg)
                  have NB183_164 := Aside0.mk (kM BK164.out hg)
                  replace BK164 := Aside0.mk (kB BK164.out hb)
                  have NB165_183 := Aside0.mk (kN BK165.out hg)
                  have NB183_165 := Aside0.mk (kM BK165.out hg)
                  replace BK165 := Aside0.mk (kB BK165.out hb)
                  have NB166_183 := Aside0.mk (kN BK166.out hg)
                  have NB183_166 := Aside0.mk (kM BK166.out hg)
                  replace BK166 := Aside0.mk (kB BK166.out hb)
                  have NB167_183 := Aside0.mk (kN BK167.out hg)
                  have NB183_167 := Aside0.mk (kM BK167.out hg)
                  replace BK167 := Aside0.mk (kB BK167.out hb)
                  clear hb hbox hg
                  refine hK.out _ _ ⟨(blk_cell BK164.out 0).trans rfl, (blk_cell BK164.out 1).trans rfl, (blk_cell BK165.out 0).trans rfl, (blk_cell BK165.out 1).trans rfl⟩ (fun hHeld => ?_)
                  clear hK K
                  refine norm_ (a' := ?_) ?_ ?_
                  rotate_left
                  ·
                   show Act.put _ (some 9) _ = _
                   simp only [Act.put, List.setIfInBounds_toArray, List.set_cons_zero, List.set_cons_succ, i64_w, i32_w]
                   rfl
                  refine one_ (i := 7) (N := some 70) #[true, true, true, true, true, true, true, true, false, true, false] rfl rfl (one_of HT_.out (by kernel_rfl)) (by decide) (fun K hK => ?_)
                  refine Kd.R_append_rows_step (Kd.int .i64) (w0 := w) w.heap.size (by rfl) (.tmp 66) (.tmp 69) 22 3 (.int .i64 0) 8 rfl Try.underlying22 info3 rfl (by decide) (by omega) v177 y176 (l1_0.drop 1) _ _ _ (fun _ => True) (fun _ => False) rfl rfl ?aO ?aR (fun _ _ h => h) (fun _ h => h.elim) ?aF ?aB ?aS ?aL ?_
                  (case aR => first | (rw [← show (l1_0.drop 1).length = (l1_0.length - 1) from List.length_drop]; exact cU (Kd.C_below HR179.out HB.out)) | (exact cU (Kd.C_below HR179.out HB.out)))
                  (case aB => exact (bS5 HB.out GE164.out GE165.out GE166.out GE167.out GE183.out))
                  (case aF => exact (fun _ _ => trivial))
                  (case aO => exact (RU HO178.out))
                  (case aS => exact (below_size (bS5 HB.out GE164.out GE165.out GE166.out GE167.out GE183.out)))
                  (case aL => have := LMc85.out; have hlx_ := (show (l1_0.drop 1).length = (l1_0.length - 1) from List.length_drop); omega)
                  intro v181 w154 ho hb hg hat
                  rw [← Ny180.out] at ho
                  have n0_ := Aside0.mk (blk_grown (g := gb164) (o := .cells #[.slice A0_0 l0_0.length c0_0, .slice A0_1 l0_1.length c0_1] 28 (0, 0)) (kU BK164.out) hg (Kd.R_ne HO178.out BK164.out (by decide)))
                  have n1_ := Aside0.mk (blk_grown (g := gb165) (o := .cells #[.slice (some ad170) l1_0.length c1_0, .slice A1_1 l1_1.length c1_1] 28 (0, 0)) (kU BK165.out) hg (Kd.R_ne HO178.out BK165.out (by decide)))
                  have n2_ := Aside0.mk (blk_grown (g := gb166) (o := .cells #[.slice none 0 0, .slice none 0 0] 28 (0, 0)) (kU BK166.out) hg (Kd.R_ne HO178.out BK166.out (by decide)))
                  have n3_ := Aside0.mk (blk_grown (g := gb167) (o := .cells #[.slice none 0 0, .slice none 0 0] 28 (0, 0)) (kU BK167.out) hg (Kd.R_ne HO178.out BK167.out (by decide)))
                  have n4_ := Aside0.mk (blk_grown (g := gb183) (o := .cells #[.slice none 0 0, .slice none 0 0] 28 (0, 0)) (kU BK183.out) hg (Kd.R_ne HO178.out BK183.out (by decide)))
                  have n5_ := Aside0.mk (hb)
                  have n6_ := Aside0.mk (ho)
                  clear BK164 BK165 BK166 BK167 BK183 HB HO178
                  have BK164 := n0_
                  have BK165 := n1_
                  have BK166 := n2_
                  have BK167 := n3_
                  have BK183 := n4_
                  have HB := n5_
                  have HO182 := n6_
                  clear n0_ n1_ n2_ n3_ n4_ n5_ n6_
                  clear ho hb hg hat
                  obtain ⟨Ao155, co155, eo155⟩ := Kd.R_slice HO182.out
                  (first | subst eo155 | (injection eo155 with f1_ f2_ f3_; have f4_ := f1_.symm; have f5_ := f3_.symm; clear f1_ f2_ f3_; subst f4_; subst f5_))
                  refine hK.out _ _ ⟨(blk_cell BK164.out 0).trans rfl, (blk_cell BK164.out 1).trans rfl, (blk_cell BK165.out 0).trans rfl, (blk_cell BK165.out 1).trans rfl⟩ (fun hHeld => ?_)
                  clear hK K
                  refine norm_ (a' := ?_) ?_ ?_
                  rotate_left
                  ·
                   show Act.put _ (some 70) _ = _
                   simp only [Act.put, List.setIfInBounds_toArray, List.set_cons_zero, List.set_cons_succ, i64_w, i32_w]
                   rfl
                  refine pure_ (i := 8) (N := some 71) (v := ?_) (a' := ?_) #[true, true, true, true, true, true, true, true, true, true, false] rfl rfl (any_of HT_.out (by kernel_rfl)) (fun _ _ _ h => h) (Or.inl ⟨by rfl, ?_⟩) ?_ ?_
                  rotate_left
                  ·
                   intro w'
                   go_simp
                   with_reducible rfl
                  rotate_left
                  ·
                   simp only [Act.put, List.setIfInBounds_toArray, List.set_cons_zero, List.set_cons_succ, i64_w, i32_w]
                   rfl
                  exact norm_ (by simp only [putAll, Act.put, List.setIfInBounds_toArray, List.set_cons_zero, List.set_cons_succ]) (hCont (v174, v177, .slice Ao155 y180.length co155, gb183) _ ⟨hHeld, (RU HO182.out), (kU BK164.out), (kU BK165.out), (kU BK166.out), (kU BK167.out), (kU BK183.out), GW183.out, GE183.out, NB164_183.out, NB183_164.out, NB165_183.out, NB183_165.out, NB166_183.out, NB183_166.out, NB167_183.out, NB183_167.out, (bS5 HB.out GE164.out GE165.out GE166.out GE167.out GE183.out)⟩)
                ·
                 skip
                 refine box_step ?hg (N := 9) ?hd (cs := #[.slice none 0 0, .slice none 0 0]) (t := 28) ?hr ?_; (case hd => rfl); (case hg => rfl); (case hr => first | (go_simp; done) | (go_simp; rfl))
                 intro gb183 hg w152 hbox hb
                 replace HO175 := Aside0.mk (Kd.R_below (RU HO175.out) hb)
                 have BK183 := Aside0.mk (hbox)
                 have GW183 := Aside0.mk ((by rw [hg]; exact (below_size (bS4 HB.out GE164.out GE165.out GE166.out GE167.out)) : w.heap.size ≤ gb183))
                 have GE183 := Aside0.mk ((by rw [hg]; exact (below_size (bS4 HB.out GE164.out GE165.out GE166.out GE167.out)) : w.heap.size ≤ gb183))
                 replace HB := Aside0.mk (below_step (bS4 HB.out GE164.out GE165.out GE166.out GE167.out) hb)
                 have NB164_183 := Aside0.mk (kN BK164.out hg)
                 have NB183_164 := Aside0.mk (kM BK164.out hg)
                 replace BK164 := Aside0.mk (kB BK164.out hb)
                 have NB165_183 := Aside0.mk (kN BK165.out hg)
                 have NB183_165 := Aside0.mk (kM BK165.out hg)
                 replace BK165 := Aside0.mk (kB BK165.out hb)
                 have NB166_183 := Aside0.mk (kN BK166.out hg)
                 have NB183_166 := Aside0.mk (kM BK166.out hg)
                 replace BK166 := Aside0.mk (kB BK166.out hb)
                 have NB167_183 := Aside0.mk (kN BK167.out hg)
                 have NB183_167 := Aside0.mk (kM BK167.out hg)
                 replace BK167 := Aside0.mk (kB BK167.out hb)
                 clear hb hbox hg
                 refine hK.out _ _ ⟨(blk_cell BK164.out 0).trans rfl, (blk_cell BK164.out 1).trans rfl, (blk_cell BK165.out 0).trans rfl, (blk_cell BK165.out 1).trans rfl⟩ (fun hHeld => ?_)
                 clear hK K
                 refine norm_ (a' := ?_) ?_ ?_
                 rotate_left
                 ·
                  show Act.put _ (some 9) _ = _
                  simp only [Act.put, List.setIfInBounds_toArray, List.set_cons_zero, List.set_cons_succ, i64_w, i32_w]
                  rfl
                 refine one_ (i := 3) (N := some 66) #[true, true, true, true, true, true, true, false, false, true, false] rfl rfl (one_of HT_.out (by kernel_rfl)) (by decide) (fun K hK => ?_)
                 refine Kd.R_append_rows_step (Kd.int .i64) (w0 := w) w.heap.size (by rfl) (.tmp 63) (.tmp 65) 22 3 (.int .i64 0) 8 rfl Try.underlying22 info3 rfl (by decide) (by omega) v174 y173 l0_0 _ _ _ (fun _ => True) (fun _ => False) rfl rfl ?aO ?aR (fun _ _ h => h) (fun _ h => h.elim) ?aF ?aB ?aS ?aL ?_
                 (case aR => exact cU (Kd.C_below HR0_0.out HB.out))
                 (case aB => exact (bS5 HB.out GE164.out GE165.out GE166.out GE167.out GE183.out))
                 (case aF => exact (fun _ _ => trivial))
                 (case aO => exact (RU HO175.out))
                 (case aS => exact (below_size (bS5 HB.out GE164.out GE165.out GE166.out GE167.out GE183.out)))
                 (case aL => have := LMc83.out; omega)
                 intro v177 w153 ho hb hg hat
                 rw [← Ny176.out] at ho
                 have n0_ := Aside0.mk (blk_grown (g := gb164) (o := .cells #[.slice A0_0 l0_0.length c0_0, .slice A0_1 l0_1.length c0_1] 28 (0, 0)) (kU BK164.out) hg (Kd.R_ne HO175.out BK164.out (by decide)))
                 have n1_ := Aside0.mk (blk_grown (g := gb165) (o := .cells #[.slice (some ad170) l1_0.length c1_0, .slice A1_1 l1_1.length c1_1] 28 (0, 0)) (kU BK165.out) hg (Kd.R_ne HO175.out BK165.out (by decide)))
                 have n2_ := Aside0.mk (blk_grown (g := gb166) (o := .cells #[.slice none 0 0, .slice none 0 0] 28 (0, 0)) (kU BK166.out) hg (Kd.R_ne HO175.out BK166.out (by decide)))
                 have n3_ := Aside0.mk (blk_grown (g := gb167) (o := .cells #[.slice none 0 0, .slice none 0 0] 28 (0, 0)) (kU BK167.out) hg (Kd.R_ne HO175.out BK167.out (by decide)))
                 have n4_ := Aside0.mk (blk_grown (g := gb183) (o := .cells #[.slice none 0 0, .slice none 0 0] 28 (0, 0)) (kU BK183.out) hg (Kd.R_ne HO175.out BK183.out (by decide)))
                 have n5_ := Aside0.mk (hb)
                 have n6_ := Aside0.mk (ho)
                 clear BK164 BK165 BK166 BK167 BK183 HB HO175
                 have BK164 := n0_
                 have BK165 := n1_
                 have BK166 := n2_
                 have BK167 := n3_
                 have BK183 := n4_
                 have HB := n5_
                 have HO178 := n6_
                 clear n0_ n1_ n2_ n3_ n4_ n5_ n6_
                 clear ho hb hg hat
                 refine hK.out _ _ ⟨(blk_cell BK164.out 0).trans rfl, (blk_cell BK164.out 1).trans rfl, (blk_cell BK165.out 0).trans rfl, (blk_cell BK165.out 1).trans rfl⟩ (fun hHeld => ?_)
                 clear hK K
                 refine norm_ (a' := ?_) ?_ ?_
                 rotate_left
                 ·
                  show Act.put _ (some 66) _ = _
                  simp only [Act.put, List.setIfInBounds_toArray, List.set_cons_zero, List.set_cons_succ, i64_w, i32_w]
                  rfl
                 refine one_ (i := 7) (N := some 70) #[true, true, true, true, true, true, true, true, false, true, false] rfl rfl (one_of HT_.out (by kernel_rfl)) (by decide) (fun K hK => ?_)
                 refine Kd.R_append_rows_step (Kd.int .i64) (w0 := w) w.heap.size (by rfl) (.tmp 66) (.tmp 69) 22 3 (.int .i64 0) 8 rfl Try.underlying22 info3 rfl (by decide) (by omega) v177 y176 (l1_0.drop 1) _ _ _ (fun _ => True) (fun _ => False) rfl rfl ?aO ?aR (fun _ _ h => h) (fun _ h => h.elim) ?aF ?aB ?aS ?aL ?_
                 (case aR => first | (rw [← show (l1_0.drop 1).length = (l1_0.length - 1) from List.length_drop]; exact cU (Kd.C_below HR179.out HB.out)) | (exact cU (Kd.C_below HR179.out HB.out)))
                 (case aB => exact (bS5 HB.out GE164.out GE165.out GE166.out GE167.out GE183.out))
                 (case aF => exact (fun _ _ => trivial))
                 (case aO => exact (RU HO178.out))
                 (case aS => exact (below_size (bS5 HB.out GE164.out GE165.out GE166.out GE167.out GE183.out)))
                 (case aL => have := LMc85.out; have hlx_ := (show (l1_0.drop 1).length = (l1_0.length - 1) from List.length_drop); omega)
                 intro v181 w154 ho hb hg hat
                 rw [← Ny180.out] at ho
                 have n0_ := Aside0.mk (blk_grown (g := gb164) (o := .cells #[.slice A0_0 l0_0.length c0_0, .slice A0_1 l0_1.length c0_1] 28 (0, 0)) (kU BK164.out) hg (Kd.R_ne HO178.out BK164.out (by decide)))
                 have n1_ := Aside0.mk (blk_grown (g := gb165) (o := .cells #[.slice (some ad170) l1_0.length c1_0, .slice A1_1 l1_1.length c1_1] 28 (0, 0)) (kU BK165.out) hg (Kd.R_ne HO178.out BK165.out (by decide)))
                 have n2_ := Aside0.mk (blk_grown (g := gb166) (o := .cells #[.slice none 0 0, .slice none 0 0] 28 (0, 0)) (kU BK166.out) hg (Kd.R_ne HO178.out BK166.out (by decide)))
                 have n3_ := Aside0.mk (blk_grown (g := gb167) (o := .cells #[.slice none 0 0, .slice none 0 0] 28 (0, 0)) (kU BK167.out) hg (Kd.R_ne HO178.out BK167.out (by decide)))
                 have n4_ := Aside0.mk (blk_grown (g := gb183) (o := .cells #[.slice none 0 0, .slice none 0 0] 28 (0, 0)) (kU BK183.out) hg (Kd.R_ne HO178.out BK183.out (by decide)))
                 have n5_ := Aside0.mk (hb)
                 have n6_ := Aside0.mk (ho)
                 clear BK164 BK165 BK166 BK167 BK183 HB HO178
                 have BK164 := n0_
                 have BK165 := n1_
                 have BK166 := n2_
                 have BK167 := n3_
                 have BK183 := n4_
                 have HB := n5_
                 have HO182 := n6_
                 clear n0_ n1_ n2_ n3_ n4_ n5_ n6_
                 clear ho hb hg hat
                 obtain ⟨Ao155, co155, eo155⟩ := Kd.R_slice HO182.out
                 (first | subst eo155 | (injection eo155 with f1_ f2_ f3_; have f4_ := f1_.symm; have f5_ := f3_.symm; clear f1_ f2_ f3_; subst f4_; subst f5_))
                 refine hK.out _ _ ⟨(blk_cell BK164.out 0).trans rfl, (blk_cell BK164.out 1).trans rfl, (blk_cell BK165.out 0).trans rfl, (blk_cell BK165.out 1).trans rfl⟩ (fun hHeld => ?_)
                 clear hK K
                 refine norm_ (a' := ?_) ?_ ?_
                 rotate_left
                 ·
                  show Act.put _ (some 70) _ = _
                  simp only [Act.put, List.setIfInBounds_toArray, List.set_cons_zero, List.set_cons_succ, i64_w, i32_w]
                  rfl
                 refine pure_ (i := 8) (N := some 71) (v := ?_) (a' := ?_) #[true, true, true, true, true, true, true, true, true, true, false] rfl rfl (any_of HT_.out (by kernel_rfl)) (fun _ _ _ h => h) (Or.inl ⟨by rfl, ?_⟩) ?_ ?_
                 rotate_left
                 ·
                  intro w'
                  go_simp
                  with_reducible rfl
                 rotate_left
                 ·
                  simp only [Act.put, List.setIfInBounds_toArray, List.set_cons_zero, List.set_cons_succ, i64_w, i32_w]
                  rfl
                 exact norm_ (by simp only [putAll, Act.put, List.setIfInBounds_toArray, List.set_cons_zero, List.set_cons_succ]) (hCont (v174, v177, .slice Ao155 y180.length co155, gb183) _ ⟨hHeld, (RU HO182.out), (kU BK164.out), (kU BK165.out), (kU BK166.out), (kU BK167.out), (kU BK183.out), GW183.out, GE183.out, NB164_183.out, NB183_164.out, NB165_183.out, NB183_165.out, NB166_183.out, NB183_166.out, NB167_183.out, NB183_167.out, (bS5 HB.out GE164.out GE165.out GE166.out GE167.out GE183.out)⟩)
               ·
                skip
                refine box_step ?hg (N := 9) ?hd (cs := #[.slice none 0 0, .slice none 0 0]) (t := 28) ?hr ?_; (case hd => rfl); (case hg => rfl); (case hr => first | (go_simp; done) | (go_simp; rfl))
                intro gb183 hg w150 hbox hb
                have BK183 := Aside0.mk (hbox)
                have GW183 := Aside0.mk ((by rw [hg]; exact (below_size (bS4 HB.out GE164.out GE165.out GE166.out GE167.out)) : w.heap.size ≤ gb183))
                have GE183 := Aside0.mk ((by rw [hg]; exact (below_size (bS4 HB.out GE164.out GE165.out GE166.out GE167.out)) : w.heap.size ≤ gb183))
                replace HB := Aside0.mk (below_step (bS4 HB.out GE164.out GE165.out GE166.out GE167.out) hb)
                have NB164_183 := Aside0.mk (kN BK164.out hg)
                have NB183_164 := Aside0.mk (kM BK164.out hg)
                replace BK164 := Aside0.mk (kB BK164.out hb)
                have NB165_183 := Aside0.mk (kN BK165.out hg)
                have NB183_165 := Aside0.mk (kM BK165.out hg)
                replace BK165 := Aside0.mk (kB BK165.out hb)
                have NB166_183 := Aside0.mk (kN BK166.out hg)
                have NB183_166 := Aside0.mk (kM BK166.out hg)
                replace BK166 := Aside0.mk (kB BK166.out hb)
                have NB167_183 := Aside0.mk (kN BK167.out hg)
                have NB183_167 := Aside0.mk (kM BK167.out hg)
                replace BK167 := Aside0.mk (kB BK167.out hb)
                clear hb hbox hg
                refine hK.out _ _ ⟨(blk_cell BK164.out 0).trans rfl, (blk_cell BK164.out 1).trans rfl, (blk_cell BK165.out 0).trans rfl, (blk_cell BK165.out 1).trans rfl⟩ (fun hHeld => ?_)
                clear hK K
                refine norm_ (a' := ?_) ?_ ?_
                rotate_left
                ·
                 show Act.put _ (some 9) _ = _
                 simp only [Act.put, List.setIfInBounds_toArray, List.set_cons_zero, List.set_cons_succ, i64_w, i32_w]
                 rfl
                refine one_ (i := 0) (N := some 63) #[true, true, true, false, true, true, true, false, false, true, false] rfl rfl (one_of HT_.out (by kernel_rfl)) (by decide) (fun K hK => ?_)
                refine Kd.R_lit_step (Kd.int .i64) _ 3 ?hg (N := 63) ?hd (xs := ([] : List Int)) (inner := []) (ok := fun _ => True) (okp := fun _ => True) ?hr ?hp (fun _ hk => hk) trivial (Below.refl _ _) (Nat.le_refl _) (by simp) ?_; (case hd => rfl); (case hg => rfl); (case hr => first | (go_simp; done) | (go_simp; rfl)); (case hp => exact (Reps.none _ _))
                intro v174 w151 ho152 hb hg_ hnew_
                clear hg_ hnew_
                (first | rw [← Ny173.out] at ho152 | (simp only [Int.reduceToNat] at ho152; rw [← Ny173.out] at ho152))
                have HO175 := Aside0.mk (Kd.R_lower ho152 (below_size (bS5 HB.out GE164.out GE165.out GE166.out GE167.out GE183.out)))
                replace BK164 := Aside0.mk (kB BK164.out hb)
                replace BK165 := Aside0.mk (kB BK165.out hb)
                replace BK166 := Aside0.mk (kB BK166.out hb)
                replace BK167 := Aside0.mk (kB BK167.out hb)
                replace BK183 := Aside0.mk (kB BK183.out hb)
                replace HB := Aside0.mk (below_step (bS5 HB.out GE164.out GE165.out GE166.out GE167.out GE183.out) hb)
                clear hb ho152
                refine hK.out _ _ ⟨(blk_cell BK164.out 0).trans rfl, (blk_cell BK164.out 1).trans rfl, (blk_cell BK165.out 0).trans rfl, (blk_cell BK165.out 1).trans rfl⟩ (fun hHeld => ?_)
                clear hK K
                refine norm_ (a' := ?_) ?_ ?_
                rotate_left
                ·
                 show Act.put _ (some 63) _ = _
                 simp only [Act.put, List.setIfInBounds_toArray, List.set_cons_zero, List.set_cons_succ, i64_w, i32_w]
                 rfl
                refine one_ (i := 3) (N := some 66) #[true, true, true, true, true, true, true, false, false, true, false] rfl rfl (one_of HT_.out (by kernel_rfl)) (by decide) (fun K hK => ?_)
                refine Kd.R_append_rows_step (Kd.int .i64) (w0 := w) w.heap.size (by rfl) (.tmp 63) (.tmp 65) 22 3 (.int .i64 0) 8 rfl Try.underlying22 info3 rfl (by decide) (by omega) v174 y173 l0_0 _ _ _ (fun _ => True) (fun _ => False) rfl rfl ?aO ?aR (fun _ _ h => h) (fun _ h => h.elim) ?aF ?aB ?aS ?aL ?_
                (case aR => exact cU (Kd.C_below HR0_0.out HB.out))
                (case aB => exact (bS5 HB.out GE164.out GE165.out GE166.out GE167.out GE183.out))
                (case aF => exact (fun _ _ => trivial))
                (case aO => exact (RU HO175.out))
                (case aS => exact (below_size (bS5 HB.out GE164.out GE165.out GE166.out GE167.out GE183.out)))
                (case aL => have := LMc83.out; omega)
                intro v177 w153 ho hb hg hat
                rw [← Ny176.out] at ho
                have n0_ := Aside0.mk (blk_grown (g := gb164) (o := .cells #[.slice A0_0 l0_0.length c0_0, .slice A0_1 l0_1.length c0_1] 28 (0, 0)) (kU BK164.out) hg (Kd.R_ne HO175.out BK164.out (by decide)))
                have n1_ := Aside0.mk (blk_grown (g := gb165) (o := .cells #[.slice (some ad170) l1_0.length c1_0, .slice A1_1 l1_1.length c1_1] 28 (0, 0)) (kU BK165.out) hg (Kd.R_ne HO175.out BK165.out (by decide)))
                have n2_ := Aside0.mk (blk_grown (g := gb166) (o := .cells #[.slice none 0 0, .slice none 0 0] 28 (0, 0)) (kU BK166.out) hg (Kd.R_ne HO175.out BK166.out (by decide)))
                have n3_ := Aside0.mk (blk_grown (g := gb167) (o := .cells #[.slice none 0 0, .slice none 0 0] 28 (0, 0)) (kU BK167.out) hg (Kd.R_ne HO175.out BK167.out (by decide)))
                have n4_ := Aside0.mk (blk_grown (g := gb183) (o := .cells #[.slice none 0 0, .slice none 0 0] 28 (0, 0)) (kU BK183.out) hg (Kd.R_ne HO175.out BK183.out (by decide)))
                have n5_ := Aside0.mk (hb)
                have n6_ := Aside0.mk (ho)
                clear BK164 BK165 BK166 BK167 BK183 HB HO175
                have BK164 := n0_
                have BK165 := n1_
                have BK166 := n2_
                have BK167 := n3_
                have BK183 := n4_
                have HB := n5_
                have HO178 := n6_
                clear n0_ n1_ n2_ n3_ n4_ n5_ n6_
                clear ho hb hg hat
                refine hK.out _ _ ⟨(blk_cell BK164.out 0).trans rfl, (blk_cell BK164.out 1).trans rfl, (blk_cell BK165.out 0).trans rfl, (blk_cell BK165.out 1).trans rfl⟩ (fun hHeld => ?_)
                clear hK K
                refine norm_ (a' := ?_) ?_ ?_
                rotate_left
                ·
                 show Act.put _ (some 66) _ = _
                 simp only [Act.put, List.setIfInBounds_toArray, List.set_cons_zero, List.set_cons_succ, i64_w, i32_w]
                 rfl
                refine one_ (i := 7) (N := some 70) #[true, true, true, true, true, true, true, true, false, true, false] rfl rfl (one_of HT_.out (by kernel_rfl)) (by decide) (fun K hK => ?_)
                refine Kd.R_append_rows_step (Kd.int .i64) (w0 := w) w.heap.size (by rfl) (.tmp 66) (.tmp 69) 22 3 (.int .i64 0) 8 rfl Try.underlying22 info3 rfl (by decide) (by omega) v177 y176 (l1_0.drop 1) _ _ _ (fun _ => True) (fun _ => False) rfl rfl ?aO ?aR (fun _ _ h => h) (fun _ h => h.elim) ?aF ?aB ?aS ?aL ?_
                (case aR => first | (rw [← show (l1_0.drop 1).length = (l1_0.length - 1) from List.length_drop]; exact cU (Kd.C_below HR179.out HB.out)) | (exact cU (Kd.C_below HR179.out HB.out)))
                (case aB => exact (bS5 HB.out GE164.out GE165.out GE166.out GE167.out GE183.out))
                (case aF => exact (fun _ _ => trivial))
                (case aO => exact (RU HO178.out))
                (case aS => exact (below_size (bS5 HB.out GE164.out GE165.out GE166.out GE167.out GE183.out)))
                (case aL => have := LMc85.out; have hlx_ := (show (l1_0.drop 1).length = (l1_0.length - 1) from List.length_drop); omega)
                intro v181 w154 ho hb hg hat
                rw [← Ny180.out] at ho
                have n0_ := Aside0.mk (blk_grown (g := gb164) (o := .cells #[.slice A0_0 l0_0.length c0_0, .slice A0_1 l0_1.length c0_1] 28 (0, 0)) (kU BK164.out) hg (Kd.R_ne HO178.out BK164.out (by decide)))
                have n1_ := Aside0.mk (blk_grown (g := gb165) (o := .cells #[.slice (some ad170) l1_0.length c1_0, .slice A1_1 l1_1.length c1_1] 28 (0, 0)) (kU BK165.out) hg (Kd.R_ne HO178.out BK165.out (by decide)))
                have n2_ := Aside0.mk (blk_grown (g := gb166) (o := .cells #[.slice none 0 0, .slice none 0 0] 28 (0, 0)) (kU BK166.out) hg (Kd.R_ne HO178.out BK166.out (by decide)))
                have n3_ := Aside0.mk (blk_grown (g := gb167) (o := .cells #[.slice none 0 0, .slice none 0 0] 28 (0, 0)) (kU BK167.out) hg (Kd.R_ne HO178.out BK167.out (by decide)))
                have n4_ := Aside0.mk (blk_grown (g := gb183) (o := .cells #[.slice none 0 0, .slice none 0 0] 28 (0, 0)) (kU BK183.out) hg (Kd.R_ne HO178.out BK183.out (by decide)))
                have n5_ := Aside0.mk (hb)
                have n6_ := Aside0.mk (ho)
                clear BK164 BK165 BK166 BK167 BK183 HB HO178
                have BK164 := n0_
                have BK165 := n1_
                have BK166 := n2_
                have BK167 := n3_
                have BK183 := n4_
                have HB := n5_
                have HO182 := n6_
                clear n0_ n1_ n2_ n3_ n4_ n5_ n6_
                clear ho hb hg hat
                obtain ⟨Ao155, co155, eo155⟩ := Kd.R_slice HO182.out
                (first | subst eo155 | (injection eo155 with f1_ f2_ f3_; have f4_ := f1_.symm; have f5_ := f3_.symm; clear f1_ f2_ f3_; subst f4_; subst f5_))
                refine hK.out _ _ ⟨(blk_cell BK164.out 0).trans rfl, (blk_cell BK164.out 1).trans rfl, (blk_cell BK165.out 0).trans rfl, (blk_cell BK165.out 1).trans rfl⟩ (fun hHeld => ?_)
                clear hK K
                refine norm_ (a' := ?_) ?_ ?_
                rotate_left
                ·
                 show Act.put _ (some 70) _ = _
                 simp only [Act.put, List.setIfInBounds_toArray, List.set_cons_zero, List.set_cons_succ, i64_w, i32_w]
                 rfl
                refine pure_ (i := 8) (N := some 71) (v := ?_) (a' := ?_) #[true, true, true, true, true, true, true, true, true, true, false] rfl rfl (any_of HT_.out (by kernel_rfl)) (fun _ _ _ h => h) (Or.inl ⟨by rfl, ?_⟩) ?_ ?_
                rotate_left
                ·
                 intro w'
                 go_simp
                 with_reducible rfl
                rotate_left
                ·
                 simp only [Act.put, List.setIfInBounds_toArray, List.set_cons_zero, List.set_cons_succ, i64_w, i32_w]
                 rfl
                exact norm_ (by simp only [putAll, Act.put, List.setIfInBounds_toArray, List.set_cons_zero, List.set_cons_succ]) (hCont (v174, v177, .slice Ao155 y180.length co155, gb183) _ ⟨hHeld, (RU HO182.out), (kU BK164.out), (kU BK165.out), (kU BK166.out), (kU BK167.out), (kU BK183.out), GW183.out, GE183.out, NB164_183.out, NB183_164.out, NB165_183.out, NB183_165.out, NB166_183.out, NB183_166.out, NB167_183.out, NB183_167.out, (bS5 HB.out GE164.out GE165.out GE166.out GE167.out GE183.out)⟩)
              rintro ⟨v174, v177, v181, gb183⟩ w156 ⟨hS_, h0_, h1_, h2_, h3_, h4_, h5_, h6_, h7_, h8_, h9_, h10_, h11_, h12_, h13_, h14_, h15_, h16_⟩
              have n0_ : Aside0 (Kd.R (Kd.int .i64) 3 w156 w.heap.size (fun _ => True) v181 y180) := ⟨h0_⟩
              have n1_ : Aside0 (w156.heap[gb164]? = some (.cells #[.slice A0_0 l0_0.length c0_0, .slice A0_1 l0_1.length c0_1] 28 (0, 0))) := ⟨h1_⟩
              have n2_ : Aside0 (w156.heap[gb165]? = some (.cells #[.slice (some ad170) l1_0.length c1_0, .slice A1_1 l1_1.length c1_1] 28 (0, 0))) := ⟨h2_⟩
              have n3_ : Aside0 (w156.heap[gb166]? = some (.cells #[.slice none 0 0, .slice none 0 0] 28 (0, 0))) := ⟨h3_⟩
              have n4_ : Aside0 (w156.heap[gb167]? = some (.cells #[.slice none 0 0, .slice none 0 0] 28 (0, 0))) := ⟨h4_⟩
              have n5_ : Aside0 (w156.heap[gb183]? = some (.cells #[.slice none 0 0, .slice none 0 0] 28 (0, 0))) := ⟨h5_⟩
              have n6_ : Aside0 (w.heap.size ≤ gb183) := ⟨h6_⟩
              have n7_ : Aside0 (w.heap.size ≤ gb183) := ⟨h7_⟩
              have n8_ : Aside0 (gb164 ≠ gb183) := ⟨h8_⟩
              have n9_ : Aside0 (gb183 ≠ gb164) := ⟨h9_⟩
              have n10_ : Aside0 (gb165 ≠ gb183) := ⟨h10_⟩
              have n11_ : Aside0 (gb183 ≠ gb165) := ⟨h11_⟩
              have n12_ : Aside0 (gb166 ≠ gb183) := ⟨h12_⟩
              have n13_ : Aside0 (gb183 ≠ gb166) := ⟨h13_⟩
              have n14_ : Aside0 (gb167 ≠ gb183) := ⟨h14_⟩
              have n15_ : Aside0 (gb183 ≠ gb167) := ⟨h15_⟩
              have n16_ : Aside0 (Below w.heap.size w w156) := ⟨h16_⟩
              clear BK164 BK165 BK166 BK167 HB
              clear h0_ h1_ h2_ h3_ h4_ h5_ h6_ h7_ h8_ h9_ h10_ h11_ h12_ h13_ h14_ h15_ h16_
              have HO182 := n0_
              have BK164 := n1_
              have BK165 := n2_
              have BK166 := n3_
              have BK167 := n4_
              have BK183 := n5_
              have GW183 := n6_
              have GE183 := n7_
              have NB164_183 := n8_
              have NB183_164 := n9_
              have NB165_183 := n10_
              have NB183_165 := n11_
              have NB166_183 := n12_
              have NB183_166 := n13_
              have NB167_183 := n14_
              have NB183_167 := n15_
              have HB := n16_
              clear n0_ n1_ n2_ n3_ n4_ n5_ n6_ n7_ n8_ n9_ n10_ n11_ n12_ n13_ n14_ n15_ n16_
              have hHeld : w156.cell? ⟨gb164, 0, none⟩ = some (.slice A0_0 l0_0.length c0_0) ∧ w156.cell? ⟨gb164, 1, none⟩ = some (.slice A0_1 l0_1.length c0_1) ∧ w156.cell? ⟨gb165, 0, none⟩ = some (.slice (some ad170) l1_0.length c1_0) ∧ w156.cell? ⟨gb165, 1, none⟩ = some (.slice A1_1 l1_1.length c1_1) := hS_
              obtain ⟨Ao157, co157, eo157⟩ := Kd.R_slice HO182.out
              (first | subst eo157 | (injection eo157 with f1_ f2_ f3_; have f4_ := f1_.symm; have f5_ := f3_.symm; clear f1_ f2_ f3_; subst f4_; subst f5_))
              refine norm_ (a' := ?_) ?_ ?_
              rotate_left
              ·
               simp only [putAll, Act.put, List.setIfInBounds_toArray, List.set_cons_zero, List.set_cons_succ]
               rfl
              refine one_ (i := 10) (N := none) #[true, true, true, true, true, true, true, true, true, true, true] rfl rfl (one_of HT_.out (by kernel_rfl)) (by decide) (fun K hK => ?_)
              have hs158 : w156.cell? ⟨gb183, 0, none⟩ = some (.slice none 0 0) := (blk_cell BK183.out 0).trans rfl
              have hfs158 := blk_frozen BK183.out 0
              have hns158_0 := NB164_183.out
              have hns158_1 := NB165_183.out
              have hns158_2 := NB166_183.out
              have hns158_3 := NB167_183.out
              have hms158_0 := NB183_164.out
              have hms158_1 := NB183_165.out
              have hms158_2 := NB183_166.out
              have hms158_3 := NB183_167.out
              have hs159 : w156.cell? ⟨gb183, 1, none⟩ = some (.slice none 0 0) := (blk_cell BK183.out 1).trans rfl
              have hfs159 := blk_frozen BK183.out 1
              have hns159_0 := NB164_183.out
              have hns159_1 := NB165_183.out
              have hns159_2 := NB166_183.out
              have hns159_3 := NB167_183.out
              have hms159_0 := NB183_164.out
              have hms159_1 := NB183_165.out
              have hms159_2 := NB183_166.out
              have hms159_3 := NB183_167.out
              refine skip_ (w1 := ?_) (by rfl) rfl ?_ ?_
              rotate_left
              ·
               go_simp
               rfl
              refine hK.out _ _ ⟨((cell_far (p := ⟨gb183, _, none⟩) NB164_183.out _).trans (((cell_far (p := ⟨gb183, _, none⟩) NB164_183.out _).trans (hHeld.1)))), ((cell_far (p := ⟨gb183, _, none⟩) NB164_183.out _).trans (((cell_far (p := ⟨gb183, _, none⟩) NB164_183.out _).trans (hHeld.2.1)))), ((cell_far (p := ⟨gb183, _, none⟩) NB165_183.out _).trans (((cell_far (p := ⟨gb183, _, none⟩) NB165_183.out _).trans (hHeld.2.2.1)))), ((cell_far (p := ⟨gb183, _, none⟩) NB165_183.out _).trans (((cell_far (p := ⟨gb183, _, none⟩) NB165_183.out _).trans (hHeld.2.2.2))))⟩ (fun hHeld => ?_)
              clear hK K
              refine done_ (done_of HT_.out (by kernel_rfl)) ?_
              have hnb160 := NB165_166.out
              have hnc160 := NB166_165.out
              have hnb161 := NB165_167.out
              have hnc161 := NB167_165.out
              have hnb162 := NB165_183.out
              have hnc162 := NB183_165.out
              have hcz163_0 : w156.cell? ⟨gb165, 0, none⟩ = some (.slice (some ad170) l1_0.length c1_0) := (blk_cell BK165.out 0).trans rfl
              have hcz163_1 : w156.cell? ⟨gb165, 1, none⟩ = some (.slice A1_1 l1_1.length c1_1) := (blk_cell BK165.out 1).trans rfl
              have hfz163_0 := blk_frozen BK165.out 0
              have hfz163_1 := blk_frozen BK165.out 1
              try go_wp2_with (first | ((with_reducible refine gate_callee (f := 19) rfl ?_); refine goesL_ (some 73) rfl rfl Try.func19 (by kernel_rfl) rfl #[.agg #[.slice (some ad170) l1_0.length c1_0, .slice A1_1 l1_1.length c1_1]] rfl lU ?_; (with_reducible refine (spec_l3Rows.calls k2 _ _ l1_0 _ _ l1_1 t184 _ ?side1 ?side2 ?side3 ?side4 A86.out).mono ?_); (case side1 => exact Kd.C_below HR1_0.out (bS5 HB.out GE164.out GE165.out GE166.out GE167.out GE183.out)); (case side2 => exact HC1_0.out); (case side3 => exact Kd.C_below HR1_1.out (bS5 HB.out GE164.out GE165.out GE166.out GE167.out GE183.out)); (case side4 => exact HC1_1.out); rintro e w164 ⟨v185, rfl, ho0, hb⟩; refine ⟨_, rfl, ?_⟩; have HO186 := Aside0.mk (Kd.S_lower (Kd.S_newB (Kd.S_newB (Kd.S_newB (Kd.S_newB (Kd.S_newB (Kd.S_new' ho0 (Kd.R_lt (by refine RU ?_; exact (far2 HO182.out BK183.out)))) (g := gb164) (o := .cells #[.slice A0_0 l0_0.length c0_0, .slice A0_1 l0_1.length c0_1] 28 (0, 0)) (by refine kU ?_; refine blk_far ?_ NB164_183.out _; refine kU ?_; refine blk_far ?_ NB164_183.out _; refine kU ?_; exact BK164.out)) (g := gb165) (o := .cells #[.slice (some ad170) l1_0.length c1_0, .slice A1_1 l1_1.length c1_1] 28 (0, 0)) (by refine kU ?_; refine blk_far ?_ NB165_183.out _; refine kU ?_; refine blk_far ?_ NB165_183.out _; refine kU ?_; exact BK165.out)) (g := gb166) (o := .cells #[.slice none 0 0, .slice none 0 0] 28 (0, 0)) (by refine kU ?_; refine blk_far ?_ NB166_183.out _; refine kU ?_; refine blk_far ?_ NB166_183.out _; refine kU ?_; exact BK166.out)) (g := gb167) (o := .cells #[.slice none 0 0, .slice none 0 0] 28 (0, 0)) (by refine kU ?_; refine blk_far ?_ NB167_183.out _; refine kU ?_; refine blk_far ?_ NB167_183.out _; refine kU ?_; exact BK167.out)) (g := gb183) (o := .cells #[.slice Ao157 y180.length co157, .slice none 0 0] 28 (0, 0)) (by refine kU ?_; refine blk_put (cs := #[.slice Ao157 y180.length co157, .slice none 0 0]) ?_ 1 _ rfl; refine kU ?_; refine blk_put (cs := #[.slice none 0 0, .slice none 0 0]) ?_ 0 _ rfl; refine kU ?_; exact BK183.out)) (below_size (bS5 HB.out GE164.out GE165.out GE166.out GE167.out GE183.out))); replace HO182 := Aside0.mk (Kd.R_below (by refine RU ?_; exact (far2 HO182.out BK183.out)) hb); replace BK164 := Aside0.mk (blk_below (g := gb164) (o := .cells #[.slice A0_0 l0_0.length c0_0, .slice A0_1 l0_1.length c0_1] 28 (0, 0)) (by refine kU ?_; refine blk_far ?_ NB164_183.out _; refine kU ?_; refine blk_far ?_ NB164_183.out _; refine kU ?_; exact BK164.out) hb); replace BK165 := Aside0.mk (blk_below (g := gb165) (o := .cells #[.slice (some ad170) l1_0.length c1_0, .slice A1_1 l1_1.length c1_1] 28 (0, 0)) (by refine kU ?_; refine blk_far ?_ NB165_183.out _; refine kU ?_; refine blk_far ?_ NB165_183.out _; refine kU ?_; exact BK165.out) hb); replace BK166 := Aside0.mk (blk_below (g := gb166) (o := .cells #[.slice none 0 0, .slice none 0 0] 28 (0, 0)) (by refine kU ?_; refine blk_far ?_ NB166_183.out _; refine kU ?_; refine blk_far ?_ NB166_183.out _; refine kU ?_; exact BK166.out) hb); replace BK167 := Aside0.mk (blk_below (g := gb167) (o := .cells #[.slice none 0 0, .slice none 0 0] 28 (0, 0)) (by refine kU ?_; refine blk_far ?_ NB167_183.out _; refine kU ?_; refine blk_far ?_ NB167_183.out _; refine kU ?_; exact BK167.out) hb); replace BK183 := Aside0.mk (blk_below (g := gb183) (o := .cells #[.slice Ao157 y180.length co157, .slice none 0 0] 28 (0, 0)) (by refine kU ?_; refine blk_put (cs := #[.slice Ao157 y180.length co157, .slice none 0 0]) ?_ 1 _ rfl; refine kU ?_; refine blk_put (cs := #[.slice none 0 0, .slice none 0 0]) ?_ 0 _ rfl; refine kU ?_; exact BK183.out) hb); replace HB := Aside0.mk (below_step (bS5 HB.out GE164.out GE165.out GE166.out GE167.out GE183.out) hb); (try clear hb); (try clear hb2); (try clear hk); (try clear hi); (try clear ho0); have hnb165 := NB183_164.out; have hnc165 := NB164_183.out; have hnb166 := NB183_166.out; have hnc166 := NB166_183.out; have hnb167 := NB183_167.out; have hnc167 := NB167_183.out; have hcz168_0 : w164.cell? ⟨gb183, 0, none⟩ = some (.slice Ao157 y180.length co157) := (blk_cell BK183.out 0).trans rfl; have hcz168_1 : w164.cell? ⟨gb183, 1, none⟩ = some (.slice none 0 0) := (blk_cell BK183.out 1).trans rfl; have hfz168_0 := blk_frozen BK183.out 0; have hfz168_1 := blk_frozen BK183.out 1) | ((with_reducible refine gate_callee (f := 28) rfl ?_); refine goesL_ (some 76) rfl rfl Try.func28 (by kernel_rfl) rfl #[.slice Ao157 y180.length co157] rfl lU ?_; (with_reducible refine (spec_ShapeOk.calls k2 _ _ y180 false _ ?side1 ?side2 A87.out).mono ?_); (case side1 => exact cU (Kd.R_reads' HO182.out).2.2); (case side2 => exact (Kd.R_reads' HO182.out).2.1); rintro e w' ⟨rfl, ⟨nd, rfl⟩⟩; refine ⟨_, rfl, ?_⟩; (try (rw [drewN_self w164]; generalize hq_ : World.drewN w164 _ = w164; have n0_ : Aside0 (Kd.R (Kd.int .i64) 3 w164 w.heap.size (fun _ => True) (.slice Ao157 y180.length co157) y180) := ⟨by rw [← hq_]; exact (RU HO182.out)⟩; have n1_ : Aside0 (Kd.S k28 28 w164 w.heap.size (fun k_ => some k_ ≠ (.slice Ao157 y180.length co157 : Value).ownBlock ∧ k_ ≠ gb164 ∧ k_ ≠ gb165 ∧ k_ ≠ gb166 ∧ k_ ≠ gb167 ∧ k_ ≠ gb183) v185 t184) := ⟨by rw [← hq_]; exact (by refine SU ?_; exact Kd.S_mono HO186.out (fun _ hk => ⟨hk.1.1.1.1.1.2, ⟨hk.1.1.1.1.2, ⟨hk.1.1.1.2, ⟨hk.1.1.2, ⟨hk.1.2, hk.2⟩⟩⟩⟩⟩))⟩; have n2_ : Aside0 (w164.heap[gb164]? = some (.cells #[.slice A0_0 l0_0.length c0_0, .slice A0_1 l0_1.length c0_1] 28 (0, 0))) := ⟨by rw [← hq_]; exact (kU BK164.out)⟩; have n3_ : Aside0 (w164.heap[gb165]? = some (.cells #[.slice (some ad170) l1_0.length c1_0, .slice A1_1 l1_1.length c1_1] 28 (0, 0))) := ⟨by rw [← hq_]; exact (kU BK165.out)⟩; have n4_ : Aside0 (w164.heap[gb166]? = some (.cells #[.slice none 0 0, .slice none 0 0] 28 (0, 0))) := ⟨by rw [← hq_]; exact (kU BK166.out)⟩; have n5_ : Aside0 (w164.heap[gb167]? = some (.cells #[.slice none 0 0, .slice none 0 0] 28 (0, 0))) := ⟨by rw [← hq_]; exact (kU BK167.out)⟩; have n6_ : Aside0 (w164.heap[gb183]? = some (.cells #[.slice Ao157 y180.length co157, .slice none 0 0] 28 (0, 0))) := ⟨by rw [← hq_]; exact (kU BK183.out)⟩; have n7_ : Aside0 (Below w.heap.size w w164) := ⟨by rw [← hq_]; exact (bS5 HB.out GE164.out GE165.out GE166.out GE167.out GE183.out)⟩; clear HO182 HO186 BK164 BK165 BK166 BK167 BK183 HB hq_; have HO182 := n0_; have HO186 := n1_; have BK164 := n2_; have BK165 := n3_; have BK166 := n4_; have BK167 := n5_; have BK183 := n6_; have HB := n7_; clear n0_ n1_ n2_ n3_ n4_ n5_ n6_ n7_)); have hnb169 := NB167_166.out; have hnc169 := NB166_167.out; have hcz170_0 : w164.cell? ⟨gb167, 0, none⟩ = some (.slice none 0 0) := (blk_cell BK167.out 0).trans rfl; have hcz170_1 : w164.cell? ⟨gb167, 1, none⟩ = some (.slice none 0 0) := (blk_cell BK167.out 1).trans rfl; have hfz170_0 := blk_frozen BK167.out 0; have hfz170_1 := blk_frozen BK167.out 1; have hcz171_0 : w164.cell? ⟨gb166, 0, none⟩ = some (.slice none 0 0) := (blk_cell BK166.out 0).trans rfl; have hcz171_1 : w164.cell? ⟨gb166, 1, none⟩ = some (.slice none 0 0) := (blk_cell BK166.out 1).trans rfl; have hfz171_0 := blk_frozen BK166.out 0; have hfz171_1 := blk_frozen BK166.out 1))
              refine bodyPost_ret (results_ct rfl _ _ gb166 28 #[.slice none 0 0, .slice none 0 0] (0, 0) _ rfl (by refine kU ?_; refine blk_put (cs := #[.slice none 0 0, .slice none 0 0]) ?_ 1 _ rfl; refine kU ?_; refine blk_put (cs := #[.slice none 0 0, .slice none 0 0]) ?_ 0 _ rfl; refine kU ?_; exact BK166.out) Try.underlying28 rfl (by kernel_rfl)) rfl ?_
              exact ⟨_, _, by first | rfl | (simp [errW_none, errW_some] <;> rfl) | (simp [*, errW_none, errW_some] <;> rfl), by first | exact Kd.R_nil _ _ _ _ _ | exact Kd.N_nil _ _ _ _ _ | exact Kd.V_nil _ _ _ _ _ | exact Kd.Q_nil _ _ _ _ _ | exact Kd.S_nil _ _ _ _ _, by first | exact Kd.R_nil _ _ _ _ _ | exact Kd.N_nil _ _ _ _ _ | exact Kd.V_nil _ _ _ _ _ | exact Kd.Q_nil _ _ _ _ _ | exact Kd.S_nil _ _ _ _ _, by exact bS5 HB.out GE164.out GE165.out GE166.out GE167.out GE183.out⟩
            ·
             rw [if_neg c85] at H
             exact absurd H (by simp)
           ·
            rw [if_neg c84] at H
            exact absurd H (by simp)
          ·
           rw [if_neg c83] at H
           exact absurd H (by simp)
      ·
       rw [if_neg c58] at H
       exact absurd H (by simp)

end Go.Proofs.Ytnpcjppcoejgmaa.PFnExactPick
