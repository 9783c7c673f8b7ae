/- The walk of what a law reaches, for the law's row: written by a program of this session; it has no condition of its own. -/
import Derived.Test.YtcnbajdnlkcjjaaPFnExactJoinx0
import Derived.Test.YtcnbajdnlkcjjaaQ
import Derived.Test.YtcnbajdnlkcjjaaPFnExactJoinx2
namespace Go.Proofs.Ytcnbajdnlkcjjaa.PFnExactJoin
open Go.RowKit Go.Proofs.YtcnbajdnlkcjjaaW.PrintWords Go.Proofs.YtcnbajdnlkcjjaaW.PrintLast Go.Proofs.YtcnbajdnlkcjjaaW.PrintMore Go.Proofs.YtcnbajdnlkcjjaaQ
attribute [local go_sem] max2_int min2_int max_two min_two max_three min_three max_four min_four   -- for this text's walks alone
set_option linter.unusedVariables false
set_option linter.unusedSimpArgs false

/-! ### spec_Join: function 50 -/
def spec_Join.j0 : Nat → Bool → List Int → List Int → List Int → List Int → Option (List Int × List Int × Int)
 | 0, _, _, _, _, _ => none
 | k + 1, x18, x167000, x167001, x168000, x168001 => if x18 = true then (some (([] : List Int), ([] : List Int), 1)) else ((spec_l5Vector.f x167000 x167001).bind fun bt172 => ((spec_l5Vector.f x168000 x168001).bind fun bt178 => (if (bt172.1.length : Int) = (bt178.1.length : Int) then (if 1 ≤ (bt172.1.length : Int) then (if 1 ≤ (bt178.1.length : Int) then ((spec_l2Same.f k (bt172.1.drop 1) (bt178.1.drop 1)).bind fun t196 => (if t196 = true then (if 0 < (bt172.1.length : Int) then (if 0 < (bt178.1.length : Int) then ((some (([wrap64 ((rd bt172.1 0) + (rd bt178.1 0))] : List Int) : List Int)).bind fun y199 => ((some (bt172.1.drop 1 : List Int)).bind fun y202 => (if y199.length + y202.length < 17592186044416 then ((some (([] : List Int) : List Int)).bind fun y210 => (if y210.length + bt172.2.length < 17592186044416 then ((some (y210 ++ bt172.2 : List Int)).bind fun y213 => (if y213.length + bt178.2.length < 17592186044416 then ((spec_l5Right.f k (y199 ++ y202) (y213 ++ bt178.2)).bind fun bt219 => (some (bt219.1, bt219.2.1, bt219.2.2))) else (none))) else (none))) else (none)))) else (none)) else (none)) else (some (([] : List Int), ([] : List Int), 3)))) else (none)) else (none)) else (some (([] : List Int), ([] : List Int), 4)))))
def spec_Join.f (k : Nat) (l0_0 : List Int) (l0_1 : List Int) (l1_0 : List Int) (l1_1 : List Int) : Option (List Int × List Int × Int) := (spec_ArrayOk.f k l0_0 l0_1).bind fun t170 => (if t170 = true then ((spec_ArrayOk.f k l1_0 l1_1).bind fun t171 => (spec_Join.j0 k (!t171) l0_0 l0_1 l1_0 l1_1)) else (spec_Join.j0 k true l0_0 l0_1 l1_0 l1_1))
def spec_Join.T4 : Bool × List (List Nat × List Nat) := (true, [([], []), ([0], [0]), ([], []), ([2, 1], [2]), ([], []), ([], []), ([4, 1, 3, 0, 1, 4, 5], [1, 4]), ([5, 3, 6, 0, 1, 2, 3, 4, 5, 6], [3, 5])])
def spec_Join.B4 : List Nat := [0, 1, 0, 7, 0, 0, 63, 127]
theorem spec_Join.tab4 : rtab .any (opsOf Try.f50 4) = spec_Join.T4 := by kernel_rfl
theorem spec_Join.bits4 : waitsOk spec_Join.T4.2 spec_Join.B4 = true := by kernel_rfl
def spec_Join.T7 : Bool × List (List Nat × List Nat) := (true, [([], []), ([0], [0]), ([1], [1]), ([], []), ([3], [3]), ([4], [4]), ([2, 5], [2, 5]), ([6], [6]), ([7, 6], [7])])
def spec_Join.B7 : List Nat := [0, 1, 3, 0, 8, 24, 63, 127, 255]
theorem spec_Join.tab7 : rtab .any (opsOf Try.f50 7) = spec_Join.T7 := by kernel_rfl
theorem spec_Join.bits7 : waitsOk spec_Join.T7.2 spec_Join.B7 = true := by kernel_rfl
def spec_Join.T9 : Bool × List (List Nat × List Nat) := (true, [([], []), ([0], [0]), ([1], [1]), ([2], [2]), ([], []), ([4], [4]), ([5], [5]), ([6], [6]), ([3, 7], [3, 7]), ([8], [8]), ([], []), ([10], [10]), ([11], [11]), ([9, 12], [9, 12]), ([13, 13, 0, 1, 2, 3, 4, 5, 6, 7, 8, 9, 10, 11, 12, 13], [13])])
def spec_Join.B9 : List Nat := [0, 1, 3, 7, 0, 16, 48, 112, 255, 511, 0, 1024, 3072, 8191, 16383]
theorem spec_Join.tab9 : rtab .any (opsOf Try.f50 9) = spec_Join.T9 := by kernel_rfl
theorem spec_Join.bits9 : waitsOk spec_Join.T9.2 spec_Join.B9 = true := by kernel_rfl
def spec_Join.T10 : Bool × List (List Nat × List Nat) := (true, [([], []), ([], []), ([], []), ([2], [2]), ([1, 3], [1, 3]), ([], []), ([5], [5]), ([4, 6, 4], [4, 6]), ([0, 7], [0, 7]), ([8, 7], [8]), ([9], [9]), ([9], [9]), ([10, 9, 0, 1, 2, 3, 4, 5, 6, 7, 8, 9, 10, 11], [10]), ([11, 12, 0, 1, 2, 3, 4, 5, 6, 7, 8, 9, 10, 11, 12], [11])])
def spec_Join.B10 : List Nat := [0, 0, 0, 4, 14, 0, 32, 126, 255, 511, 1023, 1023, 4095, 8191]
theorem spec_Join.tab10 : rtab .any (opsOf Try.f50 10) = spec_Join.T10 := by kernel_rfl
theorem spec_Join.bits10 : waitsOk spec_Join.T10.2 spec_Join.B10 = true := by kernel_rfl
set_option maxHeartbeats 8000000 in
set_option maxRecDepth 100000 in
def spec_Join.part1 : {P : Prop // (True → P) → ∀ (k : Nat) (P0_0_ : Nat → Prop) (A0_0 : Option Addr) (c0_0 : Nat) (l0_0 : List Int) (P0_1_ : Nat → Prop) (A0_1 : Option Addr) (c0_1 : Nat) (l0_1 : List Int) (P1_0_ : Nat → Prop) (A1_0 : Option Addr) (c1_0 : Nat) (l1_0 : List Int) (P1_1_ : Nat → Prop) (A1_1 : Option Addr) (c1_1 : Nat) (l1_1 : List Int) (r1 : List Int) (r2 : List Int) (r3 : Int) (w : World) (hs0_0 : Kd.V (Kd.int .i64) 3 w w.heap.size (fun k_ => P0_0_ k_) (.slice A0_0 l0_0.length c0_0) l0_0) (hs0_1 : Kd.V (Kd.int .i64) 3 w w.heap.size (fun k_ => P0_1_ k_) (.slice A0_1 l0_1.length c0_1) l0_1) (hs1_0 : Kd.V (Kd.int .i64) 3 w w.heap.size (fun k_ => P1_0_ k_) (.slice A1_0 l1_0.length c1_0) l1_0) (hs1_1 : Kd.V (Kd.int .i64) 3 w w.heap.size (fun k_ => P1_1_ k_) (.slice A1_1 l1_1.length c1_1) l1_1) (h : spec_Join.f k l0_0 l0_1 l1_0 l1_1 = some (r1, r2, r3)), Calls Try.prog 50 #[.agg #[.slice A0_0 l0_0.length c0_0, .slice A0_1 l0_1.length c0_1], .agg #[.slice A1_0 l1_0.length c1_0, .slice A1_1 l1_1.length c1_1]] w fun e w' => ∃ v0_ v1_ : Value, e = .returned (.tuple #[.agg #[v0_, v1_], .int .i64 r3]) ∧ Kd.V (Kd.int .i64) 3 w' w.heap.size (fun k_ => ((P0_0_ k_ ∨ P0_1_ k_ ∨ P1_0_ k_ ∨ P1_1_ k_) ∨ w.heap.size ≤ k_)) v0_ r1 ∧ Kd.V (Kd.int .i64) 3 w' w.heap.size (fun k_ => ((P0_0_ k_ ∨ P0_1_ k_ ∨ P1_0_ k_ ∨ P1_1_ k_) ∨ w.heap.size ≤ k_)) v1_ r2 ∧ Below w.heap.size w w'} := ⟨_, fun hRest_ => by
 intro k P0_0_ A0_0 c0_0 l0_0 P0_1_ A0_1 c0_1 l0_1 P1_0_ A1_0 c1_0 l1_0 P1_1_ A1_1 c1_1 l1_1 r1 r2 r3 w hs0_0 hs0_1 hs1_0 hs1_1 h
 have hu26 := Try.underlying26
 have HO0_0 := Aside0.mk (show Kd.V (Kd.int .i64) 3 w w.heap.size (fun k_ => ((P0_0_ k_ ∨ P0_1_ k_ ∨ P1_0_ k_ ∨ P1_1_ k_) ∨ w.heap.size ≤ k_)) (.slice A0_0 l0_0.length c0_0) l0_0 from Kd.V_mono hs0_0 (fun k_ hk => .inl (.inl hk)))
 have HO0_1 := Aside0.mk (show Kd.V (Kd.int .i64) 3 w w.heap.size (fun k_ => ((P0_0_ k_ ∨ P0_1_ k_ ∨ P1_0_ k_ ∨ P1_1_ k_) ∨ w.heap.size ≤ k_)) (.slice A0_1 l0_1.length c0_1) l0_1 from Kd.V_mono hs0_1 (fun k_ hk => .inl (.inr (.inl hk))))
 have HO1_0 := Aside0.mk (show Kd.V (Kd.int .i64) 3 w w.heap.size (fun k_ => ((P0_0_ k_ ∨ P0_1_ k_ ∨ P1_0_ k_ ∨ P1_1_ k_) ∨ w.heap.size ≤ k_)) (.slice A1_0 l1_0.length c1_0) l1_0 from Kd.V_mono hs1_0 (fun k_ hk => .inl (.inr (.inr (.inl hk)))))
 have HO1_1 := Aside0.mk (show Kd.V (Kd.int .i64) 3 w w.heap.size (fun k_ => ((P0_0_ k_ ∨ P0_1_ k_ ∨ P1_0_ k_ ∨ P1_1_ k_) ∨ w.heap.size ≤ k_)) (.slice A1_1 l1_1.length c1_1) l1_1 from Kd.V_mono hs1_1 (fun k_ hk => .inl (.inr (.inr (.inr hk)))))
 have HB := Aside0.mk (Below.refl w.heap.size w)
 have H : ((spec_ArrayOk.f k l0_0 l0_1).bind fun t170 => (if t170 = true then ((spec_ArrayOk.f k l1_0 l1_1).bind fun t171 => (spec_Join.j0 k (!t171) l0_0 l0_1 l1_0 l1_1)) else (spec_Join.j0 k true l0_0 l0_1 l1_0 l1_1))) = some (r1, r2, r3) := h
 clear h
 have HC3 := Aside0.mk H
 clear H
 go_enter Try.func50, Try.ntmps50
 go_upto_region 2 with (first | ((with_reducible refine gate_dst (N := 2) rfl ?_); refine box_event ?hg (N := 2) ?hd (cs := #[.slice A0_0 l0_0.length c0_0, .slice A0_1 l0_1.length c0_1]) (t := 26) ?hr ?_; (case hd => rfl); (case hg => rfl); (case hr => first | (go_simp; done) | (go_simp; rfl)); intro gb166 hg w4 hbox hb; replace HO0_0 := Aside0.mk (Kd.V_below (Kd.V_elderB (VU HO0_0.out) gb166 (Nat.le_of_eq hg.symm)) hb); replace HO0_1 := Aside0.mk (Kd.V_below (Kd.V_elderB (VU HO0_1.out) gb166 (Nat.le_of_eq hg.symm)) hb); replace HO1_0 := Aside0.mk (Kd.V_below (Kd.V_elderB (VU HO1_0.out) gb166 (Nat.le_of_eq hg.symm)) hb); replace HO1_1 := Aside0.mk (Kd.V_below (Kd.V_elderB (VU HO1_1.out) gb166 (Nat.le_of_eq hg.symm)) hb); have BK166 := Aside0.mk (hbox); have GW166 := Aside0.mk ((by rw [hg]; exact (below_size (bU HB.out)) : w.heap.size ≤ gb166)); have GE166 := Aside0.mk ((by rw [hg]; exact (below_size (bU HB.out)) : w.heap.size ≤ gb166)); replace HB := Aside0.mk (below_step (bU HB.out) hb); clear hb hbox hg) | ((with_reducible refine gate_dst (N := 3) rfl ?_); refine box_event ?hg (N := 3) ?hd (cs := #[.slice A1_0 l1_0.length c1_0, .slice A1_1 l1_1.length c1_1]) (t := 26) ?hr ?_; (case hd => rfl); (case hg => rfl); (case hr => first | (go_simp; done) | (go_simp; rfl)); intro gb167 hg w5 hbox hb; replace HO0_0 := Aside0.mk (Kd.V_below (Kd.V_elderB (VU HO0_0.out) gb167 (Nat.le_of_eq hg.symm)) hb); replace HO0_1 := Aside0.mk (Kd.V_below (Kd.V_elderB (VU HO0_1.out) gb167 (Nat.le_of_eq hg.symm)) hb); replace HO1_0 := Aside0.mk (Kd.V_below (Kd.V_elderB (VU HO1_0.out) gb167 (Nat.le_of_eq hg.symm)) hb); replace HO1_1 := Aside0.mk (Kd.V_below (Kd.V_elderB (VU HO1_1.out) gb167 (Nat.le_of_eq hg.symm)) hb); have BK167 := Aside0.mk (hbox); have GW167 := Aside0.mk ((by rw [hg]; exact (below_size (bS1 HB.out GE166.out)) : w.heap.size ≤ gb167)); have GE167 := Aside0.mk ((by rw [hg]; exact (below_size (bS1 HB.out GE166.out)) : w.heap.size ≤ gb167)); replace HB := Aside0.mk (below_step (bS1 HB.out GE166.out) hb); have NB166_167 := Aside0.mk (kN BK166.out hg); have NB167_166 := Aside0.mk (kM BK166.out hg); replace BK166 := Aside0.mk (kB BK166.out hb); clear hb hbox hg) | ((with_reducible refine gate_dst (N := 4) rfl ?_); refine box_event ?hg (N := 4) ?hd (cs := #[.slice none 0 0, .slice none 0 0]) (t := 26) ?hr ?_; (case hd => rfl); (case hg => rfl); (case hr => first | (go_simp; done) | (go_simp; rfl)); intro gb168 hg w6 hbox hb; replace HO0_0 := Aside0.mk (Kd.V_below (Kd.V_elderB (VU HO0_0.out) gb168 (Nat.le_of_eq hg.symm)) hb); replace HO0_1 := Aside0.mk (Kd.V_below (Kd.V_elderB (VU HO0_1.out) gb168 (Nat.le_of_eq hg.symm)) hb); replace HO1_0 := Aside0.mk (Kd.V_below (Kd.V_elderB (VU HO1_0.out) gb168 (Nat.le_of_eq hg.symm)) hb); replace HO1_1 := Aside0.mk (Kd.V_below (Kd.V_elderB (VU HO1_1.out) gb168 (Nat.le_of_eq hg.symm)) hb); have BK168 := Aside0.mk (hbox); have GW168 := Aside0.mk ((by rw [hg]; exact (below_size (bS2 HB.out GE166.out GE167.out)) : w.heap.size ≤ gb168)); have GE168 := Aside0.mk ((by rw [hg]; exact (below_size (bS2 HB.out GE166.out GE167.out)) : w.heap.size ≤ gb168)); replace HB := Aside0.mk (below_step (bS2 HB.out GE166.out GE167.out) hb); have NB166_168 := Aside0.mk (kN BK166.out hg); have NB168_166 := Aside0.mk (kM BK166.out hg); replace BK166 := Aside0.mk (kB BK166.out hb); have NB167_168 := Aside0.mk (kN BK167.out hg); have NB168_167 := Aside0.mk (kM BK167.out hg); replace BK167 := Aside0.mk (kB BK167.out hb); clear hb hbox hg) | ((with_reducible refine gate_dst (N := 6) rfl ?_); refine box_event ?hg (N := 6) ?hd (cs := #[.slice none 0 0, .slice none 0 0]) (t := 26) ?hr ?_; (case hd => rfl); (case hg => rfl); (case hr => first | (go_simp; done) | (go_simp; rfl)); intro gb169 hg w7 hbox hb; replace HO0_0 := Aside0.mk (Kd.V_below (Kd.V_elderB (VU HO0_0.out) gb169 (Nat.le_of_eq hg.symm)) hb); replace HO0_1 := Aside0.mk (Kd.V_below (Kd.V_elderB (VU HO0_1.out) gb169 (Nat.le_of_eq hg.symm)) hb); replace HO1_0 := Aside0.mk (Kd.V_below (Kd.V_elderB (VU HO1_0.out) gb169 (Nat.le_of_eq hg.symm)) hb); replace HO1_1 := Aside0.mk (Kd.V_below (Kd.V_elderB (VU HO1_1.out) gb169 (Nat.le_of_eq hg.symm)) hb); have BK169 := Aside0.mk (hbox); have GW169 := Aside0.mk ((by rw [hg]; exact (below_size (bS3 HB.out GE166.out GE167.out GE168.out)) : w.heap.size ≤ gb169)); have GE169 := Aside0.mk ((by rw [hg]; exact (below_size (bS3 HB.out GE166.out GE167.out GE168.out)) : w.heap.size ≤ gb169)); replace HB := Aside0.mk (below_step (bS3 HB.out GE166.out GE167.out GE168.out) hb); have NB166_169 := Aside0.mk (kN BK166.out hg); have NB169_166 := Aside0.mk (kM BK166.out hg); replace BK166 := Aside0.mk (kB BK166.out hb); have NB167_169 := Aside0.mk (kN BK167.out hg); have NB169_167 := Aside0.mk (kM BK167.out hg); replace BK167 := Aside0.mk (kB BK167.out hb); have NB168_169 := Aside0.mk (kN BK168.out hg); have NB169_168 := Aside0.mk (kM BK168.out hg); replace BK168 := Aside0.mk (kB BK168.out hb); clear hb hbox hg; have hnb8 := NB169_166.out; have hnc8 := NB166_169.out; have hnb9 := NB169_167.out; have hnc9 := NB167_169.out; have hnb10 := NB169_168.out; have hnc10 := NB168_169.out; have hcz11_0 : w7.cell? ⟨gb169, 0, none⟩ = some (.slice none 0 0) := (blk_cell BK169.out 0).trans rfl; have hcz11_1 : w7.cell? ⟨gb169, 1, none⟩ = some (.slice none 0 0) := (blk_cell BK169.out 1).trans rfl; have hfz11_0 := blk_frozen BK169.out 0; have hfz11_1 := blk_frozen BK169.out 1))
 (try simp only [Act.put, List.setIfInBounds_toArray, List.set_cons_zero, List.set_cons_succ])
 go_cut [18] (fun v18 wc => ∃ (kq : Nat) (x18_2 : Bool), v18 = .bool x18_2 ∧ Aside0 (spec_Join.j0 kq x18_2 l0_0 l0_1 l1_0 l1_1 = some (r1, r2, r3)) ∧ Aside0 (kq ≤ k) ∧ Aside0 (Kd.V (Kd.int .i64) 3 wc w.heap.size (fun k_ => ((P0_0_ k_ ∨ P0_1_ k_ ∨ P1_0_ k_ ∨ P1_1_ k_) ∨ w.heap.size ≤ k_) ∧ k_ ≠ gb166 ∧ k_ ≠ gb167 ∧ k_ ≠ gb168 ∧ k_ ≠ gb169) (.slice A0_0 l0_0.length c0_0) l0_0) ∧ Aside0 (Kd.V (Kd.int .i64) 3 wc w.heap.size (fun k_ => ((P0_0_ k_ ∨ P0_1_ k_ ∨ P1_0_ k_ ∨ P1_1_ k_) ∨ w.heap.size ≤ k_) ∧ k_ ≠ gb166 ∧ k_ ≠ gb167 ∧ k_ ≠ gb168 ∧ k_ ≠ gb169) (.slice A0_1 l0_1.length c0_1) l0_1) ∧ Aside0 (Kd.V (Kd.int .i64) 3 wc w.heap.size (fun k_ => ((P0_0_ k_ ∨ P0_1_ k_ ∨ P1_0_ k_ ∨ P1_1_ k_) ∨ w.heap.size ≤ k_) ∧ k_ ≠ gb166 ∧ k_ ≠ gb167 ∧ k_ ≠ gb168 ∧ k_ ≠ gb169) (.slice A1_0 l1_0.length c1_0) l1_0) ∧ Aside0 (Kd.V (Kd.int .i64) 3 wc w.heap.size (fun k_ => ((P0_0_ k_ ∨ P0_1_ k_ ∨ P1_0_ k_ ∨ P1_1_ k_) ∨ w.heap.size ≤ k_) ∧ k_ ≠ gb166 ∧ k_ ≠ gb167 ∧ k_ ≠ gb168 ∧ k_ ≠ gb169) (.slice A1_1 l1_1.length c1_1) l1_1) ∧ Aside0 (wc.heap[gb166]? = some (.cells #[(.slice A0_0 l0_0.length c0_0), (.slice A0_1 l0_1.length c0_1)] 26 (0, 0))) ∧ Aside0 (wc.heap[gb167]? = some (.cells #[(.slice A1_0 l1_0.length c1_0), (.slice A1_1 l1_1.length c1_1)] 26 (0, 0))) ∧ Aside0 (wc.heap[gb168]? = some (.cells #[(.slice none 0 0), (.slice none 0 0)] 26 (0, 0))) ∧ Aside0 (wc.heap[gb169]? = some (.cells #[(.slice none 0 0), (.slice none 0 0)] 26 (0, 0))) ∧ Aside0 (Below w.heap.size w wc))
 case first =>
  have H := HC3.out
  clear HC3
  replace H := Option.bind_eq_some_iff.mp H
  obtain ⟨t170, A120, H⟩ := H
  replace H : (if t170 = true then ((spec_ArrayOk.f k l1_0 l1_1).bind fun t171 => (spec_Join.j0 k (!t171) l0_0 l0_1 l1_0 l1_1)) else (spec_Join.j0 k true l0_0 l0_1 l1_0 l1_1)) = some (r1, r2, r3) := H
  have A12 := Aside0.mk A120
  clear A120
  by_cases c13 : t170 = true
  ·
   subst c13
   have H1 : ((spec_ArrayOk.f k l1_0 l1_1).bind fun t171 => (spec_Join.j0 k (!t171) l0_0 l0_1 l1_0 l1_1)) = some (r1, r2, r3) := by rw [if_pos rfl] at H; exact H
   clear H
   have H := H1
   clear H1
   replace H := Option.bind_eq_some_iff.mp H
   obtain ⟨t171, A140, H⟩ := H
   replace H : (spec_Join.j0 k (!t171) l0_0 l0_1 l1_0 l1_1) = some (r1, r2, r3) := H
   have A14 := Aside0.mk A140
   clear A140
   have H' := Aside0.mk H
   clear H
   have hnb15 := NB166_167.out
   have hnc15 := NB167_166.out
   have hnb16 := NB166_168.out
   have hnc16 := NB168_166.out
   have hnb17 := NB166_169.out
   have hnc17 := NB169_166.out
   have hcz18_0 : w7.cell? ⟨gb166, 0, none⟩ = some (.slice A0_0 l0_0.length c0_0) := (blk_cell BK166.out 0).trans rfl
   have hcz18_1 : w7.cell? ⟨gb166, 1, none⟩ = some (.slice A0_1 l0_1.length c0_1) := (blk_cell BK166.out 1).trans rfl
   have hfz18_0 := blk_frozen BK166.out 0
   have hfz18_1 := blk_frozen BK166.out 1
   go_wp2_with (first | ((with_reducible refine gate_callee (f := 34) rfl ?_); refine goesL_ (some 12) rfl rfl Try.func34 (by kernel_rfl) rfl #[.agg #[.slice A0_0 l0_0.length c0_0, .slice A0_1 l0_1.length c0_1]] rfl lU ?_; (with_reducible refine (spec_ArrayOk.calls k _ _ l0_0 _ _ l0_1 true _ ?side1 ?side2 ?side3 ?side4 A12.out).mono ?_); (case side1 => exact (Kd.V_reads' (e := 3) (base := w.heap.size) (n := l0_0.length) (c := c0_0) (by refine VU ?_; exact (Kd.V_mono (Kd.V_far (p := ⟨gb169, 1, none⟩) (Kd.V_far (p := ⟨gb169, 0, none⟩) (Kd.V_mono HO0_0.out (fun k_ hk => (⟨hk, hk.2⟩ : _ ∧ k_ ≠ gb169))) (fun _ hk => hk.2) (.slice none 0 0)) (fun _ hk => hk.2) (.slice none 0 0)) (fun _ h_ => h_.1)))).2.2); (case side2 => exact (Kd.V_reads' HO0_0.out).2.1); (case side3 => exact (Kd.V_reads' (e := 3) (base := w.heap.size) (n := l0_1.length) (c := c0_1) (by refine VU ?_; exact (Kd.V_mono (Kd.V_far (p := ⟨gb169, 1, none⟩) (Kd.V_far (p := ⟨gb169, 0, none⟩) (Kd.V_mono HO0_1.out (fun k_ hk => (⟨hk, hk.2⟩ : _ ∧ k_ ≠ gb169))) (fun _ hk => hk.2) (.slice none 0 0)) (fun _ hk => hk.2) (.slice none 0 0)) (fun _ h_ => h_.1)))).2.2); (case side4 => exact (Kd.V_reads' HO0_1.out).2.1); rintro e w19 ⟨rfl, hb⟩; refine ⟨_, rfl, ?_⟩; replace HO0_0 := Aside0.mk (Kd.V_below (by refine VU ?_; exact (Kd.V_mono (Kd.V_far (p := ⟨gb169, 1, none⟩) (Kd.V_far (p := ⟨gb169, 0, none⟩) (Kd.V_mono HO0_0.out (fun k_ hk => (⟨hk, hk.2⟩ : _ ∧ k_ ≠ gb169))) (fun _ hk => hk.2) (.slice none 0 0)) (fun _ hk => hk.2) (.slice none 0 0)) (fun _ h_ => h_.1))) hb); replace HO0_1 := Aside0.mk (Kd.V_below (by refine VU ?_; exact (Kd.V_mono (Kd.V_far (p := ⟨gb169, 1, none⟩) (Kd.V_far (p := ⟨gb169, 0, none⟩) (Kd.V_mono HO0_1.out (fun k_ hk => (⟨hk, hk.2⟩ : _ ∧ k_ ≠ gb169))) (fun _ hk => hk.2) (.slice none 0 0)) (fun _ hk => hk.2) (.slice none 0 0)) (fun _ h_ => h_.1))) hb); replace HO1_0 := Aside0.mk (Kd.V_below (by refine VU ?_; exact (Kd.V_mono (Kd.V_far (p := ⟨gb169, 1, none⟩) (Kd.V_far (p := ⟨gb169, 0, none⟩) (Kd.V_mono HO1_0.out (fun k_ hk => (⟨hk, hk.2⟩ : _ ∧ k_ ≠ gb169))) (fun _ hk => hk.2) (.slice none 0 0)) (fun _ hk => hk.2) (.slice none 0 0)) (fun _ h_ => h_.1))) hb); replace HO1_1 := Aside0.mk (Kd.V_below (by refine VU ?_; exact (Kd.V_mono (Kd.V_far (p := ⟨gb169, 1, none⟩) (Kd.V_far (p := ⟨gb169, 0, none⟩) (Kd.V_mono HO1_1.out (fun k_ hk => (⟨hk, hk.2⟩ : _ ∧ k_ ≠ gb169))) (fun _ hk => hk.2) (.slice none 0 0)) (fun _ hk => hk.2) (.slice none 0 0)) (fun _ h_ => h_.1))) hb); replace BK166 := Aside0.mk (blk_below (g := gb166) (o := .cells #[.slice A0_0 l0_0.length c0_0, .slice A0_1 l0_1.length c0_1] 26 (0, 0)) (by refine kU ?_; refine blk_far ?_ NB166_169.out _; refine kU ?_; refine blk_far ?_ NB166_169.out _; refine kU ?_; exact BK166.out) hb); replace BK167 := Aside0.mk (blk_below (g := gb167) (o := .cells #[.slice A1_0 l1_0.length c1_0, .slice A1_1 l1_1.length c1_1] 26 (0, 0)) (by refine kU ?_; refine blk_far ?_ NB167_169.out _; refine kU ?_; refine blk_far ?_ NB167_169.out _; refine kU ?_; exact BK167.out) hb); replace BK168 := Aside0.mk (blk_below (g := gb168) (o := .cells #[.slice none 0 0, .slice none 0 0] 26 (0, 0)) (by refine kU ?_; refine blk_far ?_ NB168_169.out _; refine kU ?_; refine blk_far ?_ NB168_169.out _; refine kU ?_; exact BK168.out) hb); replace BK169 := Aside0.mk (blk_below (g := gb169) (o := .cells #[.slice none 0 0, .slice none 0 0] 26 (0, 0)) (by refine kU ?_; refine blk_put (cs := #[.slice none 0 0, .slice none 0 0]) ?_ 1 _ rfl; refine kU ?_; refine blk_put (cs := #[.slice none 0 0, .slice none 0 0]) ?_ 0 _ rfl; refine kU ?_; exact BK169.out) hb); replace HB := Aside0.mk (below_step (bS4 HB.out GE166.out GE167.out GE168.out GE169.out) hb); (try clear hb); (try clear hb2); (try clear hk); (try clear hi); have hnb20 := NB167_168.out; have hnc20 := NB168_167.out; have hnb21 := NB167_169.out; have hnc21 := NB169_167.out; have hcz22_0 : w19.cell? ⟨gb167, 0, none⟩ = some (.slice A1_0 l1_0.length c1_0) := (blk_cell BK167.out 0).trans rfl; have hcz22_1 : w19.cell? ⟨gb167, 1, none⟩ = some (.slice A1_1 l1_1.length c1_1) := (blk_cell BK167.out 1).trans rfl; have hfz22_0 := blk_frozen BK167.out 0; have hfz22_1 := blk_frozen BK167.out 1) | (go_at_call 34; (repeat rw [i64_w]); (with_reducible refine (spec_ArrayOk.calls k _ _ l1_0 _ _ l1_1 t171 _ ?side1 ?side2 ?side3 ?side4 A14.out).mono ?_); (case side1 => exact cU (Kd.V_reads' HO1_0.out).2.2); (case side2 => exact (Kd.V_reads' HO1_0.out).2.1); (case side3 => exact cU (Kd.V_reads' HO1_1.out).2.2); (case side4 => exact (Kd.V_reads' HO1_1.out).2.1); rintro e w23 ⟨rfl, hb⟩; replace HO0_0 := Aside0.mk (Kd.V_below (VU HO0_0.out) hb); replace HO0_1 := Aside0.mk (Kd.V_below (VU HO0_1.out) hb); replace HO1_0 := Aside0.mk (Kd.V_below (VU HO1_0.out) hb); replace HO1_1 := Aside0.mk (Kd.V_below (VU HO1_1.out) hb); replace BK166 := Aside0.mk (kB BK166.out hb); replace BK167 := Aside0.mk (kB BK167.out hb); replace BK168 := Aside0.mk (kB BK168.out hb); replace BK169 := Aside0.mk (kB BK169.out hb); replace HB := Aside0.mk (below_step (bS4 HB.out GE166.out GE167.out GE168.out GE169.out) hb); (try clear hb); (try clear hb2); (try clear hk); (try clear hi)))
   go_meet
   case rel => exact ⟨_, (!t171), (by first | rfl | (simp; done) | (simp [*]; done)), H', ⟨by first | omega | exact Nat.le_refl _⟩, ⟨by refine VU ?_; exact Kd.V_mono HO0_0.out (fun _ hk => ⟨hk.1.1.1.1, ⟨hk.1.1.1.2, ⟨hk.1.1.2, ⟨hk.1.2, hk.2⟩⟩⟩⟩)⟩, ⟨by refine VU ?_; exact Kd.V_mono HO0_1.out (fun _ hk => ⟨hk.1.1.1.1, ⟨hk.1.1.1.2, ⟨hk.1.1.2, ⟨hk.1.2, hk.2⟩⟩⟩⟩)⟩, ⟨by refine VU ?_; exact Kd.V_mono HO1_0.out (fun _ hk => ⟨hk.1.1.1.1, ⟨hk.1.1.1.2, ⟨hk.1.1.2, ⟨hk.1.2, hk.2⟩⟩⟩⟩)⟩, ⟨by refine VU ?_; exact Kd.V_mono HO1_1.out (fun _ hk => ⟨hk.1.1.1.1, ⟨hk.1.1.1.2, ⟨hk.1.1.2, ⟨hk.1.2, hk.2⟩⟩⟩⟩)⟩, ⟨by refine kU ?_; exact BK166.out⟩, ⟨by refine kU ?_; exact BK167.out⟩, ⟨by refine kU ?_; exact BK168.out⟩, ⟨by refine kU ?_; exact BK169.out⟩, ⟨by exact bS4 HB.out GE166.out GE167.out GE168.out GE169.out⟩⟩
  ·
   replace c13 := Bool.eq_false_iff.mpr c13
   subst c13
   have H1 : (spec_Join.j0 k true l0_0 l0_1 l1_0 l1_1) = some (r1, r2, r3) := by rw [if_neg (show ¬ (false = true) by decide)] at H; exact H
   clear H
   have H := H1
   clear H1
   have H' := Aside0.mk H
   clear H
   have hnb24 := NB166_167.out
   have hnc24 := NB167_166.out
   have hnb25 := NB166_168.out
   have hnc25 := NB168_166.out
   have hnb26 := NB166_169.out
   have hnc26 := NB169_166.out
   have hcz27_0 : w7.cell? ⟨gb166, 0, none⟩ = some (.slice A0_0 l0_0.length c0_0) := (blk_cell BK166.out 0).trans rfl
   have hcz27_1 : w7.cell? ⟨gb166, 1, none⟩ = some (.slice A0_1 l0_1.length c0_1) := (blk_cell BK166.out 1).trans rfl
   have hfz27_0 := blk_frozen BK166.out 0
   have hfz27_1 := blk_frozen BK166.out 1
   go_wp2_with (first | ((with_reducible refine gate_callee (f := 34) rfl ?_); refine goesL_ (some 12) rfl rfl Try.func34 (by kernel_rfl) rfl #[.agg #[.slice A0_0 l0_0.length c0_0, .slice A0_1 l0_1.length c0_1]] rfl lU ?_; (with_reducible refine (spec_ArrayOk.calls k _ _ l0_0 _ _ l0_1 false _ ?side1 ?side2 ?side3 ?side4 A12.out).mono ?_); (case side1 => exact (Kd.V_reads' (e := 3) (base := w.heap.size) (n := l0_0.length) (c := c0_0) (by refine VU ?_; exact (Kd.V_mono (Kd.V_far (p := ⟨gb169, 1, none⟩) (Kd.V_far (p := ⟨gb169, 0, none⟩) (Kd.V_mono HO0_0.out (fun k_ hk => (⟨hk, hk.2⟩ : _ ∧ k_ ≠ gb169))) (fun _ hk => hk.2) (.slice none 0 0)) (fun _ hk => hk.2) (.slice none 0 0)) (fun _ h_ => h_.1)))).2.2); (case side2 => exact (Kd.V_reads' HO0_0.out).2.1); (case side3 => exact (Kd.V_reads' (e := 3) (base := w.heap.size) (n := l0_1.length) (c := c0_1) (by refine VU ?_; exact (Kd.V_mono (Kd.V_far (p := ⟨gb169, 1, none⟩) (Kd.V_far (p := ⟨gb169, 0, none⟩) (Kd.V_mono HO0_1.out (fun k_ hk => (⟨hk, hk.2⟩ : _ ∧ k_ ≠ gb169))) (fun _ hk => hk.2) (.slice none 0 0)) (fun _ hk => hk.2) (.slice none 0 0)) (fun _ h_ => h_.1)))).2.2); (case side4 => exact (Kd.V_reads' HO0_1.out).2.1); rintro e w28 ⟨rfl, hb⟩; refine ⟨_, rfl, ?_⟩; replace HO0_0 := Aside0.mk (Kd.V_below (by refine VU ?_; exact (Kd.V_mono (Kd.V_far (p := ⟨gb169, 1, none⟩) (Kd.V_far (p := ⟨gb169, 0, none⟩) (Kd.V_mono HO0_0.out (fun k_ hk => (⟨hk, hk.2⟩ : _ ∧ k_ ≠ gb169))) (fun _ hk => hk.2) (.slice none 0 0)) (fun _ hk => hk.2) (.slice none 0 0)) (fun _ h_ => h_.1))) hb); replace HO0_1 := Aside0.mk (Kd.V_below (by refine VU ?_; exact (Kd.V_mono (Kd.V_far (p := ⟨gb169, 1, none⟩) (Kd.V_far (p := ⟨gb169, 0, none⟩) (Kd.V_mono HO0_1.out (fun k_ hk => (⟨hk, hk.2⟩ : _ ∧ k_ ≠ gb169))) (fun _ hk => hk.2) (.slice none 0 0)) (fun _ hk => hk.2) (.slice none 0 0)) (fun _ h_ => h_.1))) hb); replace HO1_0 := Aside0.mk (Kd.V_below (by refine VU ?_; exact (Kd.V_mono (Kd.V_far (p := ⟨gb169, 1, none⟩) (Kd.V_far (p := ⟨gb169, 0, none⟩) (Kd.V_mono HO1_0.out (fun k_ hk => (⟨hk, hk.2⟩ : _ ∧ k_ ≠ gb169))) (fun _ hk => hk.2) (.slice none 0 0)) (fun _ hk => hk.2) (.slice none 0 0)) (fun _ h_ => h_.1))) hb); replace HO1_1 := Aside0.mk (Kd.V_below (by refine VU ?_; exact (Kd.V_mono (Kd.V_far (p := ⟨gb169, 1, none⟩) (Kd.V_far (p := ⟨gb169, 0, none⟩) (Kd.V_mono HO1_1.out (fun k_ hk => (⟨hk, hk.2⟩ : _ ∧ k_ ≠ gb169))) (fun _ hk => hk.2) (.slice none 0 0)) (fun _ hk => hk.2) (.slice none 0 0)) (fun _ h_ => h_.1))) hb); replace BK166 := Aside0.mk (blk_below (g := gb166) (o := .cells #[.slice A0_0 l0_0.length c0_0, .slice A0_1 l0_1.length c0_1] 26 (0, 0)) (by refine kU ?_; refine blk_far ?_ NB166_169.out _; refine kU ?_; refine blk_far ?_ NB166_169.out _; refine kU ?_; exact BK166.out) hb); replace BK167 := Aside0.mk (blk_below (g := gb167) (o := .cells #[.slice A1_0 l1_0.length c1_0, .slice A1_1 l1_1.length c1_1] 26 (0, 0)) (by refine kU ?_; refine blk_far ?_ NB167_169.out _; refine kU ?_; refine blk_far ?_ NB167_169.out _; refine kU ?_; exact BK167.out) hb); replace BK168 := Aside0.mk (blk_below (g := gb168) (o := .cells #[.slice none 0 0, .slice none 0 0] 26 (0, 0)) (by refine kU ?_; refine blk_far ?_ NB168_169.out _; refine kU ?_; refine blk_far ?_ NB168_169.out _; refine kU ?_; exact BK168.out) hb); replace BK169 := Aside0.mk (blk_below (g := gb169) (o := .cells #[.slice none 0 0, .slice none 0 0] 26 (0, 0)) (by refine kU ?_; refine blk_put (cs := #[.slice none 0 0, .slice none 0 0]) ?_ 1 _ rfl; refine kU ?_; refine blk_put (cs := #[.slice none 0 0, .slice none 0 0]) ?_ 0 _ rfl; refine kU ?_; exact BK169.out) hb); replace HB := Aside0.mk (below_step (bS4 HB.out GE166.out GE167.out GE168.out GE169.out) hb); (try clear hb); (try clear hb2); (try clear hk); (try clear hi)))
   go_meet
   case rel => exact ⟨_, (true), (by first | rfl | (simp; done) | (simp [*]; done)), H', ⟨by first | omega | exact Nat.le_refl _⟩, ⟨by refine VU ?_; exact Kd.V_mono HO0_0.out (fun _ hk => ⟨hk.1.1.1.1, ⟨hk.1.1.1.2, ⟨hk.1.1.2, ⟨hk.1.2, hk.2⟩⟩⟩⟩)⟩, ⟨by refine VU ?_; exact Kd.V_mono HO0_1.out (fun _ hk => ⟨hk.1.1.1.1, ⟨hk.1.1.1.2, ⟨hk.1.1.2, ⟨hk.1.2, hk.2⟩⟩⟩⟩)⟩, ⟨by refine VU ?_; exact Kd.V_mono HO1_0.out (fun _ hk => ⟨hk.1.1.1.1, ⟨hk.1.1.1.2, ⟨hk.1.1.2, ⟨hk.1.2, hk.2⟩⟩⟩⟩)⟩, ⟨by refine VU ?_; exact Kd.V_mono HO1_1.out (fun _ hk => ⟨hk.1.1.1.1, ⟨hk.1.1.1.2, ⟨hk.1.1.2, ⟨hk.1.2, hk.2⟩⟩⟩⟩)⟩, ⟨by refine kU ?_; exact BK166.out⟩, ⟨by refine kU ?_; exact BK167.out⟩, ⟨by refine kU ?_; exact BK168.out⟩, ⟨by refine kU ?_; exact BK169.out⟩, ⟨by exact bS4 HB.out GE166.out GE167.out GE168.out GE169.out⟩⟩
 case rest =>
  clear HC3
  try clear c1
  try clear c2
  try clear p2
  try clear c3
  try clear c5
  try clear c8
  try clear c9
  try clear c10
  try clear c13
  try clear c15
  try clear c16
  try clear c17
  try clear c20
  try clear c21
  try clear c24
  try clear c25
  try clear c26
  try clear hcz11_0
  try clear hcz11_1
  try clear hcz18_0
  try clear hcz18_1
  try clear hcz22_0
  try clear hcz22_1
  try clear hcz27_0
  try clear hcz27_1
  try clear hfz11_0
  try clear hfz11_1
  try clear hfz18_0
  try clear hfz18_1
  try clear hfz22_0
  try clear hfz22_1
  try clear hfz27_0
  try clear hfz27_1
  obtain ⟨kq, x18_2, rfl, HA, HJ2, HO_167000, HO_167001, HO_168000, HO_168001, BK166, BK167, BK168, BK169, HB⟩ := hcut
  cases kq with
  | zero => exact absurd HA.out (by simp [spec_Join.j0])
  | succ kj2 =>
   have H := HA.out
   clear HA
   simp only [spec_Join.j0] at H
   by_cases c29 : x18_2 = true
   ·
    subst c29
    have H1 : (some (([] : List Int), ([] : List Int), 1)) = some (r1, r2, r3) := by rw [if_pos rfl] at H; exact H
    clear H
    have H := H1
    clear H1
    simp only [Option.some.injEq, Prod.mk.injEq] at H
    obtain ⟨rfl, rfl, rfl⟩ := H
    have hnb30 := NB169_166.out
    have hnc30 := NB166_169.out
    have hnb31 := NB169_167.out
    have hnc31 := NB167_169.out
    have hnb32 := NB169_168.out
    have hnc32 := NB168_169.out
    have hcz33_0 : wc.cell? ⟨gb169, 0, none⟩ = some (.slice none 0 0) := (blk_cell BK169.out 0).trans rfl
    have hcz33_1 : wc.cell? ⟨gb169, 1, none⟩ = some (.slice none 0 0) := (blk_cell BK169.out 1).trans rfl
    have hfz33_0 := blk_frozen BK169.out 0
    have hfz33_1 := blk_frozen BK169.out 1
    have hnb34 := NB168_166.out
    have hnc34 := NB166_168.out
    have hnb35 := NB168_167.out
    have hnc35 := NB167_168.out
    have hcz36_0 : wc.cell? ⟨gb168, 0, none⟩ = some (.slice none 0 0) := (blk_cell BK168.out 0).trans rfl
    have hcz36_1 : wc.cell? ⟨gb168, 1, none⟩ = some (.slice none 0 0) := (blk_cell BK168.out 1).trans rfl
    have hfz36_0 := blk_frozen BK168.out 0
    have hfz36_1 := blk_frozen BK168.out 1
    go_wp2
    refine bodyPost_ret (results_ct rfl _ _ gb168 26 #[.slice none 0 0, .slice none 0 0] (0, 0) _ rfl (by refine kU ?_; refine blk_put (cs := #[.slice none 0 0, .slice none 0 0]) ?_ 1 _ rfl; refine kU ?_; refine blk_put (cs := #[.slice none 0 0, .slice none 0 0]) ?_ 0 _ rfl; refine kU ?_; exact BK168.out) Try.underlying26 rfl (by kernel_rfl)) rfl ?_
    exact ⟨_, _, by first | rfl | (simp [errW_none, errW_some] <;> rfl) | (simp [*, errW_none, errW_some] <;> rfl), Kd.V_mono (Kd.R_V (Kd.R_nil _ _ _ 0 (fun _ => False))) (fun _ hk => hk.elim), Kd.V_mono (Kd.R_V (Kd.R_nil _ _ _ 0 (fun _ => False))) (fun _ hk => hk.elim), by exact bS4 HB.out GE166.out GE167.out GE168.out GE169.out⟩
   ·
    replace c29 := Bool.eq_false_iff.mpr c29
    subst c29
    have H1 : ((spec_l5Vector.f l0_0 l0_1).bind fun bt172 => ((spec_l5Vector.f l1_0 l1_1).bind fun bt178 => (if (bt172.1.length : Int) = (bt178.1.length : Int) then (if 1 ≤ (bt172.1.length : Int) then (if 1 ≤ (bt178.1.length : Int) then ((spec_l2Same.f kj2 (bt172.1.drop 1) (bt178.1.drop 1)).bind fun t196 => (if t196 = true then (if 0 < (bt172.1.length : Int) then (if 0 < (bt178.1.length : Int) then ((some (([wrap64 ((rd bt172.1 0) + (rd bt178.1 0))] : List Int) : List Int)).bind fun y199 => ((some (bt172.1.drop 1 : List Int)).bind fun y202 => (if y199.length + y202.length < 17592186044416 then ((some (([] : List Int) : List Int)).bind fun y210 => (if y210.length + bt172.2.length < 17592186044416 then ((some (y210 ++ bt172.2 : List Int)).bind fun y213 => (if y213.length + bt178.2.length < 17592186044416 then ((spec_l5Right.f kj2 (y199 ++ y202) (y213 ++ bt178.2)).bind fun bt219 => (some (bt219.1, bt219.2.1, bt219.2.2))) else (none))) else (none))) else (none)))) else (none)) else (none)) else (some (([] : List Int), ([] : List Int), 3)))) else (none)) else (none)) else (some (([] : List Int), ([] : List Int), 4))))) = some (r1, r2, r3) := by rw [if_neg (show ¬ (false = true) by decide)] at H; exact H
    clear H
    have H := H1
    clear H1
    replace H := Option.bind_eq_some_iff.mp H
    obtain ⟨⟨t172, t175⟩, A370, H⟩ := H
    replace H : ((spec_l5Vector.f l1_0 l1_1).bind fun bt178 => (if (t172.length : Int) = (bt178.1.length : Int) then (if 1 ≤ (t172.length : Int) then (if 1 ≤ (bt178.1.length : Int) then ((spec_l2Same.f kj2 (t172.drop 1) (bt178.1.drop 1)).bind fun t196 => (if t196 = true then (if 0 < (t172.length : Int) then (if 0 < (bt178.1.length : Int) then ((some (([wrap64 ((rd t172 0) + (rd bt178.1 0))] : List Int) : List Int)).bind fun y199 => ((some (t172.drop 1 : List Int)).bind fun y202 => (if y199.length + y202.length < 17592186044416 then ((some (([] : List Int) : List Int)).bind fun y210 => (if y210.length + t175.length < 17592186044416 then ((some (y210 ++ t175 : List Int)).bind fun y213 => (if y213.length + bt178.2.length < 17592186044416 then ((spec_l5Right.f kj2 (y199 ++ y202) (y213 ++ bt178.2)).bind fun bt219 => (some (bt219.1, bt219.2.1, bt219.2.2))) else (none))) else (none))) else (none)))) else (none)) else (none)) else (some (([] : List Int), ([] : List Int), 3)))) else (none)) else (none)) else (some (([] : List Int), ([] : List Int), 4)))) = some (r1, r2, r3) := H
    have A37 := Aside0.mk A370
    clear A370
    replace H := Option.bind_eq_some_iff.mp H
    obtain ⟨⟨t178, t181⟩, A380, H⟩ := H
    replace H : (if (t172.length : Int) = (t178.length : Int) then (if 1 ≤ (t172.length : Int) then (if 1 ≤ (t178.length : Int) then ((spec_l2Same.f kj2 (t172.drop 1) (t178.drop 1)).bind fun t196 => (if t196 = true then (if 0 < (t172.length : Int) then (if 0 < (t178.length : Int) then ((some (([wrap64 ((rd t172 0) + (rd t178 0))] : List Int) : List Int)).bind fun y199 => ((some (t172.drop 1 : List Int)).bind fun y202 => (if y199.length + y202.length < 17592186044416 then ((some (([] : List Int) : List Int)).bind fun y210 => (if y210.length + t175.length < 17592186044416 then ((some (y210 ++ t175 : List Int)).bind fun y213 => (if y213.length + t181.length < 17592186044416 then ((spec_l5Right.f kj2 (y199 ++ y202) (y213 ++ t181)).bind fun bt219 => (some (bt219.1, bt219.2.1, bt219.2.2))) else (none))) else (none))) else (none)))) else (none)) else (none)) else (some (([] : List Int), ([] : List Int), 3)))) else (none)) else (none)) else (some (([] : List Int), ([] : List Int), 4))) = some (r1, r2, r3) := H
    have A38 := Aside0.mk A380
    clear A380
    try go_wp2
    replace HO_167000 := Aside0.mk (Kd.V_drew HO_167000.out)
    replace HO_167001 := Aside0.mk (Kd.V_drew HO_167001.out)
    replace HO_168000 := Aside0.mk (Kd.V_drew HO_168000.out)
    replace HO_168001 := Aside0.mk (Kd.V_drew HO_168001.out)
    replace BK166 := Aside0.mk (blk_drew BK166.out)
    replace BK167 := Aside0.mk (blk_drew BK167.out)
    replace BK168 := Aside0.mk (blk_drew BK168.out)
    replace BK169 := Aside0.mk (blk_drew BK169.out)
    replace HB := Aside0.mk (below_drew1 HB.out)
    refine start_ (n := 8) (S := fun w' => w'.cell? ⟨gb166, 0, none⟩ = some (.slice A0_0 l0_0.length c0_0) ∧ w'.cell? ⟨gb166, 1, none⟩ = some (.slice A0_1 l0_1.length c0_1) ∧ w'.cell? ⟨gb167, 0, none⟩ = some (.slice A1_0 l1_0.length c1_0) ∧ w'.cell? ⟨gb167, 1, none⟩ = some (.slice A1_1 l1_1.length c1_1)) (ds := []) #[false, false, false, false, false, false, false, false] (by kernel_rfl) rfl rfl ⟨(blk_cell BK166.out 0).trans rfl, (blk_cell BK166.out 1).trans rfl, (blk_cell BK167.out 0).trans rfl, (blk_cell BK167.out 1).trans rfl⟩ (fun hHeld => ?_); refine with_tabW spec_Join.tab4 spec_Join.bits4 (fun HT_ HW_ => ?_)
    generalize wc.drew = w51 at HO_167000 HO_167001 HO_168000 HO_168001 BK166 BK167 BK168 BK169 HB hHeld ⊢
    refine take_ (i := 0) (N := some 20) (v := ?_) (a' := ?_) #[true, false, false, false, false, false, false, false] rfl rfl (take_ofW HT_.out HW_.out (by kernel_rfl)) (fun _ _ _ h => h) (Or.inl ⟨by rfl, ?_⟩) hHeld ?_ ?_
    rotate_left
    ·
     rintro w' ⟨s0, s1, s2, s3⟩
     go_simp
     with_reducible rfl
    rotate_left
    ·
     simp only [Act.put, List.setIfInBounds_toArray, List.set_cons_zero, List.set_cons_succ, i64_w, i32_w]
     rfl
    refine take_ (i := 2) (N := some 22) (v := ?_) (a' := ?_) #[true, false, true, false, false, false, false, false] rfl rfl (take_ofW HT_.out HW_.out (by kernel_rfl)) (fun _ _ _ h => h) (Or.inl ⟨by rfl, ?_⟩) hHeld ?_ ?_
    rotate_left
    ·
     rintro w' ⟨s0, s1, s2, s3⟩
     go_simp
     with_reducible rfl
    rotate_left
    ·
     simp only [Act.put, List.setIfInBounds_toArray, List.set_cons_zero, List.set_cons_succ, i64_w, i32_w]
     rfl
    refine join_ (σ := Value × Value × Value × Value × Nat × Nat) 2 #[true, true, true, true, true, true, false, false] (fun s_ => [(21, .agg #[s_.1, s_.2.1]), (23, .agg #[s_.2.2.1, s_.2.2.2.1]), (7, .pointer (some ⟨s_.2.2.2.2.1, 0, none⟩)), (8, .pointer (some ⟨s_.2.2.2.2.2, 0, none⟩))]) (fun s_ w' => (w'.cell? ⟨gb166, 0, none⟩ = some (.slice A0_0 l0_0.length c0_0) ∧ w'.cell? ⟨gb166, 1, none⟩ = some (.slice A0_1 l0_1.length c0_1) ∧ w'.cell? ⟨gb167, 0, none⟩ = some (.slice A1_0 l1_0.length c1_0) ∧ w'.cell? ⟨gb167, 1, none⟩ = some (.slice A1_1 l1_1.length c1_1)) ∧ (Kd.V (Kd.int .i64) 3 w' w.heap.size (fun k_ => ((P0_0_ k_ ∨ P0_1_ k_ ∨ P1_0_ k_ ∨ P1_1_ k_) ∨ w.heap.size ≤ k_) ∧ k_ ≠ gb166 ∧ k_ ≠ gb167 ∧ k_ ≠ gb168 ∧ k_ ≠ gb169 ∧ k_ ≠ s_.2.2.2.2.1 ∧ k_ ≠ s_.2.2.2.2.2) s_.1 t172) ∧ (Kd.V (Kd.int .i64) 3 w' w.heap.size (fun k_ => ((P0_0_ k_ ∨ P0_1_ k_ ∨ P1_0_ k_ ∨ P1_1_ k_) ∨ w.heap.size ≤ k_) ∧ k_ ≠ gb166 ∧ k_ ≠ gb167 ∧ k_ ≠ gb168 ∧ k_ ≠ gb169 ∧ k_ ≠ s_.2.2.2.2.1 ∧ k_ ≠ s_.2.2.2.2.2) s_.2.1 t175) ∧ (Kd.V (Kd.int .i64) 3 w' w.heap.size (fun k_ => ((P0_0_ k_ ∨ P0_1_ k_ ∨ P1_0_ k_ ∨ P1_1_ k_) ∨ w.heap.size ≤ k_) ∧ k_ ≠ gb166 ∧ k_ ≠ gb167 ∧ k_ ≠ gb168 ∧ k_ ≠ gb169 ∧ k_ ≠ s_.2.2.2.2.1 ∧ k_ ≠ s_.2.2.2.2.2) s_.2.2.1 t178) ∧ (Kd.V (Kd.int .i64) 3 w' w.heap.size (fun k_ => ((P0_0_ k_ ∨ P0_1_ k_ ∨ P1_0_ k_ ∨ P1_1_ k_) ∨ w.heap.size ≤ k_) ∧ k_ ≠ gb166 ∧ k_ ≠ gb167 ∧ k_ ≠ gb168 ∧ k_ ≠ gb169 ∧ k_ ≠ s_.2.2.2.2.1 ∧ k_ ≠ s_.2.2.2.2.2) s_.2.2.2.1 t181) ∧ (Kd.V (Kd.int .i64) 3 w' w.heap.size (fun k_ => ((P0_0_ k_ ∨ P0_1_ k_ ∨ P1_0_ k_ ∨ P1_1_ k_) ∨ w.heap.size ≤ k_) ∧ k_ ≠ gb166 ∧ k_ ≠ gb167 ∧ k_ ≠ gb168 ∧ k_ ≠ gb169 ∧ k_ ≠ s_.2.2.2.2.1 ∧ k_ ≠ s_.2.2.2.2.2) (.slice A0_0 l0_0.length c0_0) l0_0) ∧ (Kd.V (Kd.int .i64) 3 w' w.heap.size (fun k_ => ((P0_0_ k_ ∨ P0_1_ k_ ∨ P1_0_ k_ ∨ P1_1_ k_) ∨ w.heap.size ≤ k_) ∧ k_ ≠ gb166 ∧ k_ ≠ gb167 ∧ k_ ≠ gb168 ∧ k_ ≠ gb169 ∧ k_ ≠ s_.2.2.2.2.1 ∧ k_ ≠ s_.2.2.2.2.2) (.slice A0_1 l0_1.length c0_1) l0_1) ∧ (Kd.V (Kd.int .i64) 3 w' w.heap.size (fun k_ => ((P0_0_ k_ ∨ P0_1_ k_ ∨ P1_0_ k_ ∨ P1_1_ k_) ∨ w.heap.size ≤ k_) ∧ k_ ≠ gb166 ∧ k_ ≠ gb167 ∧ k_ ≠ gb168 ∧ k_ ≠ gb169 ∧ k_ ≠ s_.2.2.2.2.1 ∧ k_ ≠ s_.2.2.2.2.2) (.slice A1_0 l1_0.length c1_0) l1_0) ∧ (Kd.V (Kd.int .i64) 3 w' w.heap.size (fun k_ => ((P0_0_ k_ ∨ P0_1_ k_ ∨ P1_0_ k_ ∨ P1_1_ k_) ∨ w.heap.size ≤ k_) ∧ k_ ≠ gb166 ∧ k_ ≠ gb167 ∧ k_ ≠ gb168 ∧ k_ ≠ gb169 ∧ k_ ≠ s_.2.2.2.2.1 ∧ k_ ≠ s_.2.2.2.2.2) (.slice A1_1 l1_1.length c1_1) l1_1) ∧ (w'.heap[gb166]? = some (.cells #[.slice A0_0 l0_0.length c0_0, .slice A0_1 l0_1.length c0_1] 26 (0, 0))) ∧ (w'.heap[gb167]? = some (.cells #[.slice A1_0 l1_0.length c1_0, .slice A1_1 l1_1.length c1_1] 26 (0, 0))) ∧ (w'.heap[gb168]? = some (.cells #[.slice none 0 0, .slice none 0 0] 26 (0, 0))) ∧ (w'.heap[gb169]? = some (.cells #[.slice none 0 0, .slice none 0 0] 26 (0, 0))) ∧ (w'.heap[s_.2.2.2.2.1]? = some (.cells #[.slice none 0 0, .slice none 0 0] 26 (0, 0))) ∧ (w'.heap[s_.2.2.2.2.2]? = some (.cells #[.slice none 0 0, .slice none 0 0] 26 (0, 0))) ∧ (w.heap.size ≤ s_.2.2.2.2.1) ∧ (w.heap.size ≤ s_.2.2.2.2.1) ∧ (gb166 ≠ s_.2.2.2.2.1) ∧ (s_.2.2.2.2.1 ≠ gb166) ∧ (gb167 ≠ s_.2.2.2.2.1) ∧ (s_.2.2.2.2.1 ≠ gb167) ∧ (gb168 ≠ s_.2.2.2.2.1) ∧ (s_.2.2.2.2.1 ≠ gb168) ∧ (gb169 ≠ s_.2.2.2.2.1) ∧ (s_.2.2.2.2.1 ≠ gb169) ∧ (s_.2.2.2.2.2 ≠ s_.2.2.2.2.1) ∧ (s_.2.2.2.2.1 ≠ s_.2.2.2.2.2) ∧ (w.heap.size ≤ s_.2.2.2.2.2) ∧ (w.heap.size ≤ s_.2.2.2.2.2) ∧ (gb166 ≠ s_.2.2.2.2.2) ∧ (s_.2.2.2.2.2 ≠ gb166) ∧ (gb167 ≠ s_.2.2.2.2.2) ∧ (s_.2.2.2.2.2 ≠ gb167) ∧ (gb168 ≠ s_.2.2.2.2.2) ∧ (s_.2.2.2.2.2 ≠ gb168) ∧ (gb169 ≠ s_.2.2.2.2.2) ∧ (s_.2.2.2.2.2 ≠ gb169) ∧ (Below w.heap.size w w')) ?_ ?_
    rotate_left
    ·
     intro hJ1_3_4_5
     refine join_ (σ := Value × Value × Value × Value × Nat) 3 #[true, true, true, true, true, false, false, false] (fun s_ => [(21, .agg #[s_.1, s_.2.1]), (23, .agg #[s_.2.2.1, s_.2.2.2.1]), (7, .pointer (some ⟨s_.2.2.2.2, 0, none⟩))]) (fun s_ w' => (w'.cell? ⟨gb166, 0, none⟩ = some (.slice A0_0 l0_0.length c0_0) ∧ w'.cell? ⟨gb166, 1, none⟩ = some (.slice A0_1 l0_1.length c0_1) ∧ w'.cell? ⟨gb167, 0, none⟩ = some (.slice A1_0 l1_0.length c1_0) ∧ w'.cell? ⟨gb167, 1, none⟩ = some (.slice A1_1 l1_1.length c1_1)) ∧ (Kd.V (Kd.int .i64) 3 w' w.heap.size (fun k_ => ((P0_0_ k_ ∨ P0_1_ k_ ∨ P1_0_ k_ ∨ P1_1_ k_) ∨ w.heap.size ≤ k_) ∧ k_ ≠ gb166 ∧ k_ ≠ gb167 ∧ k_ ≠ gb168 ∧ k_ ≠ gb169 ∧ k_ ≠ s_.2.2.2.2) s_.1 t172) ∧ (Kd.V (Kd.int .i64) 3 w' w.heap.size (fun k_ => ((P0_0_ k_ ∨ P0_1_ k_ ∨ P1_0_ k_ ∨ P1_1_ k_) ∨ w.heap.size ≤ k_) ∧ k_ ≠ gb166 ∧ k_ ≠ gb167 ∧ k_ ≠ gb168 ∧ k_ ≠ gb169 ∧ k_ ≠ s_.2.2.2.2) s_.2.1 t175) ∧ (Kd.V (Kd.int .i64) 3 w' w.heap.size (fun k_ => ((P0_0_ k_ ∨ P0_1_ k_ ∨ P1_0_ k_ ∨ P1_1_ k_) ∨ w.heap.size ≤ k_) ∧ k_ ≠ gb166 ∧ k_ ≠ gb167 ∧ k_ ≠ gb168 ∧ k_ ≠ gb169 ∧ k_ ≠ s_.2.2.2.2) s_.2.2.1 t178) ∧ (Kd.V (Kd.int .i64) 3 w' w.heap.size (fun k_ => ((P0_0_ k_ ∨ P0_1_ k_ ∨ P1_0_ k_ ∨ P1_1_ k_) ∨ w.heap.size ≤ k_) ∧ k_ ≠ gb166 ∧ k_ ≠ gb167 ∧ k_ ≠ gb168 ∧ k_ ≠ gb169 ∧ k_ ≠ s_.2.2.2.2) s_.2.2.2.1 t181) ∧ (Kd.V (Kd.int .i64) 3 w' w.heap.size (fun k_ => ((P0_0_ k_ ∨ P0_1_ k_ ∨ P1_0_ k_ ∨ P1_1_ k_) ∨ w.heap.size ≤ k_) ∧ k_ ≠ gb166 ∧ k_ ≠ gb167 ∧ k_ ≠ gb168 ∧ k_ ≠ gb169 ∧ k_ ≠ s_.2.2.2.2) (.slice A0_0 l0_0.length c0_0) l0_0) ∧ (Kd.V (Kd.int .i64) 3 w' w.heap.size (fun k_ => ((P0_0_ k_ ∨ P0_1_ k_ ∨ P1_0_ k_ ∨ P1_1_ k_) ∨ w.heap.size ≤ k_) ∧ k_ ≠ gb166 ∧ k_ ≠ gb167 ∧ k_ ≠ gb168 ∧ k_ ≠ gb169 ∧ k_ ≠ s_.2.2.2.2) (.slice A0_1 l0_1.length c0_1) l0_1) ∧ (Kd.V (Kd.int .i64) 3 w' w.heap.size (fun k_ => ((P0_0_ k_ ∨ P0_1_ k_ ∨ P1_0_ k_ ∨ P1_1_ k_) ∨ w.heap.size ≤ k_) ∧ k_ ≠ gb166 ∧ k_ ≠ gb167 ∧ k_ ≠ gb168 ∧ k_ ≠ gb169 ∧ k_ ≠ s_.2.2.2.2) (.slice A1_0 l1_0.length c1_0) l1_0) ∧ (Kd.V (Kd.int .i64) 3 w' w.heap.size (fun k_ => ((P0_0_ k_ ∨ P0_1_ k_ ∨ P1_0_ k_ ∨ P1_1_ k_) ∨ w.heap.size ≤ k_) ∧ k_ ≠ gb166 ∧ k_ ≠ gb167 ∧ k_ ≠ gb168 ∧ k_ ≠ gb169 ∧ k_ ≠ s_.2.2.2.2) (.slice A1_1 l1_1.length c1_1) l1_1) ∧ (w'.heap[gb166]? = some (.cells #[.slice A0_0 l0_0.length c0_0, .slice A0_1 l0_1.length c0_1] 26 (0, 0))) ∧ (w'.heap[gb167]? = some (.cells #[.slice A1_0 l1_0.length c1_0, .slice A1_1 l1_1.length c1_1] 26 (0, 0))) ∧ (w'.heap[gb168]? = some (.cells #[.slice none 0 0, .slice none 0 0] 26 (0, 0))) ∧ (w'.heap[gb169]? = some (.cells #[.slice none 0 0, .slice none 0 0] 26 (0, 0))) ∧ (w'.heap[s_.2.2.2.2]? = some (.cells #[.slice none 0 0, .slice none 0 0] 26 (0, 0))) ∧ (w.heap.size ≤ s_.2.2.2.2) ∧ (w.heap.size ≤ s_.2.2.2.2) ∧ (gb166 ≠ s_.2.2.2.2) ∧ (s_.2.2.2.2 ≠ gb166) ∧ (gb167 ≠ s_.2.2.2.2) ∧ (s_.2.2.2.2 ≠ gb167) ∧ (gb168 ≠ s_.2.2.2.2) ∧ (s_.2.2.2.2 ≠ gb168) ∧ (gb169 ≠ s_.2.2.2.2) ∧ (s_.2.2.2.2 ≠ gb169) ∧ (Below w.heap.size w w')) ?_ ?_
     rotate_left
     ·
      intro hJ1_3_4
      refine join_ (σ := Value × Value × Value × Value × Nat) 3 #[true, true, true, true, false, true, false, false] (fun s_ => [(21, .agg #[s_.1, s_.2.1]), (23, .agg #[s_.2.2.1, s_.2.2.2.1]), (8, .pointer (some ⟨s_.2.2.2.2, 0, none⟩))]) (fun s_ w' => (w'.cell? ⟨gb166, 0, none⟩ = some (.slice A0_0 l0_0.length c0_0) ∧ w'.cell? ⟨gb166, 1, none⟩ = some (.slice A0_1 l0_1.length c0_1) ∧ w'.cell? ⟨gb167, 0, none⟩ = some (.slice A1_0 l1_0.length c1_0) ∧ w'.cell? ⟨gb167, 1, none⟩ = some (.slice A1_1 l1_1.length c1_1)) ∧ (Kd.V (Kd.int .i64) 3 w' w.heap.size (fun k_ => ((P0_0_ k_ ∨ P0_1_ k_ ∨ P1_0_ k_ ∨ P1_1_ k_) ∨ w.heap.size ≤ k_) ∧ k_ ≠ gb166 ∧ k_ ≠ gb167 ∧ k_ ≠ gb168 ∧ k_ ≠ gb169 ∧ k_ ≠ s_.2.2.2.2) s_.1 t172) ∧ (Kd.V (Kd.int .i64) 3 w' w.heap.size (fun k_ => ((P0_0_ k_ ∨ P0_1_ k_ ∨ P1_0_ k_ ∨ P1_1_ k_) ∨ w.heap.size ≤ k_) ∧ k_ ≠ gb166 ∧ k_ ≠ gb167 ∧ k_ ≠ gb168 ∧ k_ ≠ gb169 ∧ k_ ≠ s_.2.2.2.2) s_.2.1 t175) ∧ (Kd.V (Kd.int .i64) 3 w' w.heap.size (fun k_ => ((P0_0_ k_ ∨ P0_1_ k_ ∨ P1_0_ k_ ∨ P1_1_ k_) ∨ w.heap.size ≤ k_) ∧ k_ ≠ gb166 ∧ k_ ≠ gb167 ∧ k_ ≠ gb168 ∧ k_ ≠ gb169 ∧ k_ ≠ s_.2.2.2.2) s_.2.2.1 t178) ∧ (Kd.V (Kd.int .i64) 3 w' w.heap.size (fun k_ => ((P0_0_ k_ ∨ P0_1_ k_ ∨ P1_0_ k_ ∨ P1_1_ k_) ∨ w.heap.size ≤ k_) ∧ k_ ≠ gb166 ∧ k_ ≠ gb167 ∧ k_ ≠ gb168 ∧ k_ ≠ gb169 ∧ k_ ≠ s_.2.2.2.2) s_.2.2.2.1 t181) ∧ (Kd.V (Kd.int .i64) 3 w' w.heap.size (fun k_ => ((P0_0_ k_ ∨ P0_1_ k_ ∨ P1_0_ k_ ∨ P1_1_ k_) ∨ w.heap.size ≤ k_) ∧ k_ ≠ gb166 ∧ k_ ≠ gb167 ∧ k_ ≠ gb168 ∧ k_ ≠ gb169 ∧ k_ ≠ s_.2.2.2.2) (.slice A0_0 l0_0.length c0_0) l0_0) ∧ (Kd.V (Kd.int .i64) 3 w' w.heap.size (fun k_ => ((P0_0_ k_ ∨ P0_1_ k_ ∨ P1_0_ k_ ∨ P1_1_ k_) ∨ w.heap.size ≤ k_) ∧ k_ ≠ gb166 ∧ k_ ≠ gb167 ∧ k_ ≠ gb168 ∧ k_ ≠ gb169 ∧ k_ ≠ s_.2.2.2.2) (.slice A0_1 l0_1.length c0_1) l0_1) ∧ (Kd.V (Kd.int .i64) 3 w' w.heap.size (fun k_ => ((P0_0_ k_ ∨ P0_1_ k_ ∨ P1_0_ k_ ∨ P1_1_ k_) ∨ w.heap.size ≤ k_) ∧ k_ ≠ gb166 ∧ k_ ≠ gb167 ∧ k_ ≠ gb168 ∧ k_ ≠ gb169 ∧ k_ ≠ s_.2.2.2.2) (.slice A1_0 l1_0.length c1_0) l1_0) ∧ (Kd.V (Kd.int .i64) 3 w' w.heap.size (fun k_ => ((P0_0_ k_ ∨ P0_1_ k_ ∨ P1_0_ k_ ∨ P1_1_ k_) ∨ w.heap.size ≤ k_) ∧ k_ ≠ gb166 ∧ k_ ≠ gb167 ∧ k_ ≠ gb168 ∧ k_ ≠ gb169 ∧ k_ ≠ s_.2.2.2.2) (.slice A1_1 l1_1.length c1_1) l1_1) ∧ (w'.heap[gb166]? = some (.cells #[.slice A0_0 l0_0.length c0_0, .slice A0_1 l0_1.length c0_1] 26 (0, 0))) ∧ (w'.heap[gb167]? = some (.cells #[.slice A1_0 l1_0.length c1_0, .slice A1_1 l1_1.length c1_1] 26 (0, 0))) ∧ (w'.heap[gb168]? = some (.cells #[.slice none 0 0, .slice none 0 0] 26 (0, 0))) ∧ (w'.heap[gb169]? = some (.cells #[.slice none 0 0, .slice none 0 0] 26 (0, 0))) ∧ (w'.heap[s_.2.2.2.2]? = some (.cells #[.slice none 0 0, .slice none 0 0] 26 (0, 0))) ∧ (w.heap.size ≤ s_.2.2.2.2) ∧ (w.heap.size ≤ s_.2.2.2.2) ∧ (gb166 ≠ s_.2.2.2.2) ∧ (s_.2.2.2.2 ≠ gb166) ∧ (gb167 ≠ s_.2.2.2.2) ∧ (s_.2.2.2.2 ≠ gb167) ∧ (gb168 ≠ s_.2.2.2.2) ∧ (s_.2.2.2.2 ≠ gb168) ∧ (gb169 ≠ s_.2.2.2.2) ∧ (s_.2.2.2.2 ≠ gb169) ∧ (Below w.heap.size w w')) ?_ ?_
      rotate_left
      ·
       intro hJ1_3_5
       refine join_ (σ := Value × Value × Nat × Nat) 3 #[true, true, true, false, true, true, false, false] (fun s_ => [(21, .agg #[s_.1, s_.2.1]), (7, .pointer (some ⟨s_.2.2.1, 0, none⟩)), (8, .pointer (some ⟨s_.2.2.2, 0, none⟩))]) (fun s_ w' => (w'.cell? ⟨gb166, 0, none⟩ = some (.slice A0_0 l0_0.length c0_0) ∧ w'.cell? ⟨gb166, 1, none⟩ = some (.slice A0_1 l0_1.length c0_1) ∧ w'.cell? ⟨gb167, 0, none⟩ = some (.slice A1_0 l1_0.length c1_0) ∧ w'.cell? ⟨gb167, 1, none⟩ = some (.slice A1_1 l1_1.length c1_1)) ∧ (Kd.V (Kd.int .i64) 3 w' w.heap.size (fun k_ => ((P0_0_ k_ ∨ P0_1_ k_ ∨ P1_0_ k_ ∨ P1_1_ k_) ∨ w.heap.size ≤ k_) ∧ k_ ≠ gb166 ∧ k_ ≠ gb167 ∧ k_ ≠ gb168 ∧ k_ ≠ gb169 ∧ k_ ≠ s_.2.2.1 ∧ k_ ≠ s_.2.2.2) s_.1 t172) ∧ (Kd.V (Kd.int .i64) 3 w' w.heap.size (fun k_ => ((P0_0_ k_ ∨ P0_1_ k_ ∨ P1_0_ k_ ∨ P1_1_ k_) ∨ w.heap.size ≤ k_) ∧ k_ ≠ gb166 ∧ k_ ≠ gb167 ∧ k_ ≠ gb168 ∧ k_ ≠ gb169 ∧ k_ ≠ s_.2.2.1 ∧ k_ ≠ s_.2.2.2) s_.2.1 t175) ∧ (Kd.V (Kd.int .i64) 3 w' w.heap.size (fun k_ => ((P0_0_ k_ ∨ P0_1_ k_ ∨ P1_0_ k_ ∨ P1_1_ k_) ∨ w.heap.size ≤ k_) ∧ k_ ≠ gb166 ∧ k_ ≠ gb167 ∧ k_ ≠ gb168 ∧ k_ ≠ gb169 ∧ k_ ≠ s_.2.2.1 ∧ k_ ≠ s_.2.2.2) (.slice A0_0 l0_0.length c0_0) l0_0) ∧ (Kd.V (Kd.int .i64) 3 w' w.heap.size (fun k_ => ((P0_0_ k_ ∨ P0_1_ k_ ∨ P1_0_ k_ ∨ P1_1_ k_) ∨ w.heap.size ≤ k_) ∧ k_ ≠ gb166 ∧ k_ ≠ gb167 ∧ k_ ≠ gb168 ∧ k_ ≠ gb169 ∧ k_ ≠ s_.2.2.1 ∧ k_ ≠ s_.2.2.2) (.slice A0_1 l0_1.length c0_1) l0_1) ∧ (Kd.V (Kd.int .i64) 3 w' w.heap.size (fun k_ => ((P0_0_ k_ ∨ P0_1_ k_ ∨ P1_0_ k_ ∨ P1_1_ k_) ∨ w.heap.size ≤ k_) ∧ k_ ≠ gb166 ∧ k_ ≠ gb167 ∧ k_ ≠ gb168 ∧ k_ ≠ gb169 ∧ k_ ≠ s_.2.2.1 ∧ k_ ≠ s_.2.2.2) (.slice A1_0 l1_0.length c1_0) l1_0) ∧ (Kd.V (Kd.int .i64) 3 w' w.heap.size (fun k_ => ((P0_0_ k_ ∨ P0_1_ k_ ∨ P1_0_ k_ ∨ P1_1_ k_) ∨ w.heap.size ≤ k_) ∧ k_ ≠ gb166 ∧ k_ ≠ gb167 ∧ k_ ≠ gb168 ∧ k_ ≠ gb169 ∧ k_ ≠ s_.2.2.1 ∧ k_ ≠ s_.2.2.2) (.slice A1_1 l1_1.length c1_1) l1_1) ∧ (w'.heap[gb166]? = some (.cells #[.slice A0_0 l0_0.length c0_0, .slice A0_1 l0_1.length c0_1] 26 (0, 0))) ∧ (w'.heap[gb167]? = some (.cells #[.slice A1_0 l1_0.length c1_0, .slice A1_1 l1_1.length c1_1] 26 (0, 0))) ∧ (w'.heap[gb168]? = some (.cells #[.slice none 0 0, .slice none 0 0] 26 (0, 0))) ∧ (w'.heap[gb169]? = some (.cells #[.slice none 0 0, .slice none 0 0] 26 (0, 0))) ∧ (w'.heap[s_.2.2.1]? = some (.cells #[.slice none 0 0, .slice none 0 0] 26 (0, 0))) ∧ (w'.heap[s_.2.2.2]? = some (.cells #[.slice none 0 0, .slice none 0 0] 26 (0, 0))) ∧ (w.heap.size ≤ s_.2.2.1) ∧ (w.heap.size ≤ s_.2.2.1) ∧ (gb166 ≠ s_.2.2.1) ∧ (s_.2.2.1 ≠ gb166) ∧ (gb167 ≠ s_.2.2.1) ∧ (s_.2.2.1 ≠ gb167) ∧ (gb168 ≠ s_.2.2.1) ∧ (s_.2.2.1 ≠ gb168) ∧ (gb169 ≠ s_.2.2.1) ∧ (s_.2.2.1 ≠ gb169) ∧ (s_.2.2.2 ≠ s_.2.2.1) ∧ (s_.2.2.1 ≠ s_.2.2.2) ∧ (w.heap.size ≤ s_.2.2.2) ∧ (w.heap.size ≤ s_.2.2.2) ∧ (gb166 ≠ s_.2.2.2) ∧ (s_.2.2.2 ≠ gb166) ∧ (gb167 ≠ s_.2.2.2) ∧ (s_.2.2.2 ≠ gb167) ∧ (gb168 ≠ s_.2.2.2) ∧ (s_.2.2.2 ≠ gb168) ∧ (gb169 ≠ s_.2.2.2) ∧ (s_.2.2.2 ≠ gb169) ∧ (Below w.heap.size w w')) ?_ ?_
       rotate_left
       ·
        intro hJ1_4_5
        refine join_ (σ := Value × Value × Value × Value) 4 #[true, true, true, true, false, false, false, false] (fun s_ => [(21, .agg #[s_.1, s_.2.1]), (23, .agg #[s_.2.2.1, s_.2.2.2])]) (fun s_ w' => (w'.cell? ⟨gb166, 0, none⟩ = some (.slice A0_0 l0_0.length c0_0) ∧ w'.cell? ⟨gb166, 1, none⟩ = some (.slice A0_1 l0_1.length c0_1) ∧ w'.cell? ⟨gb167, 0, none⟩ = some (.slice A1_0 l1_0.length c1_0) ∧ w'.cell? ⟨gb167, 1, none⟩ = some (.slice A1_1 l1_1.length c1_1)) ∧ (Kd.V (Kd.int .i64) 3 w' w.heap.size (fun k_ => ((P0_0_ k_ ∨ P0_1_ k_ ∨ P1_0_ k_ ∨ P1_1_ k_) ∨ w.heap.size ≤ k_) ∧ k_ ≠ gb166 ∧ k_ ≠ gb167 ∧ k_ ≠ gb168 ∧ k_ ≠ gb169) s_.1 t172) ∧ (Kd.V (Kd.int .i64) 3 w' w.heap.size (fun k_ => ((P0_0_ k_ ∨ P0_1_ k_ ∨ P1_0_ k_ ∨ P1_1_ k_) ∨ w.heap.size ≤ k_) ∧ k_ ≠ gb166 ∧ k_ ≠ gb167 ∧ k_ ≠ gb168 ∧ k_ ≠ gb169) s_.2.1 t175) ∧ (Kd.V (Kd.int .i64) 3 w' w.heap.size (fun k_ => ((P0_0_ k_ ∨ P0_1_ k_ ∨ P1_0_ k_ ∨ P1_1_ k_) ∨ w.heap.size ≤ k_) ∧ k_ ≠ gb166 ∧ k_ ≠ gb167 ∧ k_ ≠ gb168 ∧ k_ ≠ gb169) s_.2.2.1 t178) ∧ (Kd.V (Kd.int .i64) 3 w' w.heap.size (fun k_ => ((P0_0_ k_ ∨ P0_1_ k_ ∨ P1_0_ k_ ∨ P1_1_ k_) ∨ w.heap.size ≤ k_) ∧ k_ ≠ gb166 ∧ k_ ≠ gb167 ∧ k_ ≠ gb168 ∧ k_ ≠ gb169) s_.2.2.2 t181) ∧ (Kd.V (Kd.int .i64) 3 w' w.heap.size (fun k_ => ((P0_0_ k_ ∨ P0_1_ k_ ∨ P1_0_ k_ ∨ P1_1_ k_) ∨ w.heap.size ≤ k_) ∧ k_ ≠ gb166 ∧ k_ ≠ gb167 ∧ k_ ≠ gb168 ∧ k_ ≠ gb169) (.slice A0_0 l0_0.length c0_0) l0_0) ∧ (Kd.V (Kd.int .i64) 3 w' w.heap.size (fun k_ => ((P0_0_ k_ ∨ P0_1_ k_ ∨ P1_0_ k_ ∨ P1_1_ k_) ∨ w.heap.size ≤ k_) ∧ k_ ≠ gb166 ∧ k_ ≠ gb167 ∧ k_ ≠ gb168 ∧ k_ ≠ gb169) (.slice A0_1 l0_1.length c0_1) l0_1) ∧ (Kd.V (Kd.int .i64) 3 w' w.heap.size (fun k_ => ((P0_0_ k_ ∨ P0_1_ k_ ∨ P1_0_ k_ ∨ P1_1_ k_) ∨ w.heap.size ≤ k_) ∧ k_ ≠ gb166 ∧ k_ ≠ gb167 ∧ k_ ≠ gb168 ∧ k_ ≠ gb169) (.slice A1_0 l1_0.length c1_0) l1_0) ∧ (Kd.V (Kd.int .i64) 3 w' w.heap.size (fun k_ => ((P0_0_ k_ ∨ P0_1_ k_ ∨ P1_0_ k_ ∨ P1_1_ k_) ∨ w.heap.size ≤ k_) ∧ k_ ≠ gb166 ∧ k_ ≠ gb167 ∧ k_ ≠ gb168 ∧ k_ ≠ gb169) (.slice A1_1 l1_1.length c1_1) l1_1) ∧ (w'.heap[gb166]? = some (.cells #[.slice A0_0 l0_0.length c0_0, .slice A0_1 l0_1.length c0_1] 26 (0, 0))) ∧ (w'.heap[gb167]? = some (.cells #[.slice A1_0 l1_0.length c1_0, .slice A1_1 l1_1.length c1_1] 26 (0, 0))) ∧ (w'.heap[gb168]? = some (.cells #[.slice none 0 0, .slice none 0 0] 26 (0, 0))) ∧ (w'.heap[gb169]? = some (.cells #[.slice none 0 0, .slice none 0 0] 26 (0, 0))) ∧ (Below w.heap.size w w')) ?_ ?_
        rotate_left
        ·
         intro hJ1_3
         refine join_ (σ := Value × Value × Nat) 4 #[true, true, true, false, true, false, false, false] (fun s_ => [(21, .agg #[s_.1, s_.2.1]), (7, .pointer (some ⟨s_.2.2, 0, none⟩))]) (fun s_ w' => (w'.cell? ⟨gb166, 0, none⟩ = some (.slice A0_0 l0_0.length c0_0) ∧ w'.cell? ⟨gb166, 1, none⟩ = some (.slice A0_1 l0_1.length c0_1) ∧ w'.cell? ⟨gb167, 0, none⟩ = some (.slice A1_0 l1_0.length c1_0) ∧ w'.cell? ⟨gb167, 1, none⟩ = some (.slice A1_1 l1_1.length c1_1)) ∧ (Kd.V (Kd.int .i64) 3 w' w.heap.size (fun k_ => ((P0_0_ k_ ∨ P0_1_ k_ ∨ P1_0_ k_ ∨ P1_1_ k_) ∨ w.heap.size ≤ k_) ∧ k_ ≠ gb166 ∧ k_ ≠ gb167 ∧ k_ ≠ gb168 ∧ k_ ≠ gb169 ∧ k_ ≠ s_.2.2) s_.1 t172) ∧ (Kd.V (Kd.int .i64) 3 w' w.heap.size (fun k_ => ((P0_0_ k_ ∨ P0_1_ k_ ∨ P1_0_ k_ ∨ P1_1_ k_) ∨ w.heap.size ≤ k_) ∧ k_ ≠ gb166 ∧ k_ ≠ gb167 ∧ k_ ≠ gb168 ∧ k_ ≠ gb169 ∧ k_ ≠ s_.2.2) s_.2.1 t175) ∧ (Kd.V (Kd.int .i64) 3 w' w.heap.size (fun k_ => ((P0_0_ k_ ∨ P0_1_ k_ ∨ P1_0_ k_ ∨ P1_1_ k_) ∨ w.heap.size ≤ k_) ∧ k_ ≠ gb166 ∧ k_ ≠ gb167 ∧ k_ ≠ gb168 ∧ k_ ≠ gb169 ∧ k_ ≠ s_.2.2) (.slice A0_0 l0_0.length c0_0) l0_0) ∧ (Kd.V (Kd.int .i64) 3 w' w.heap.size (fun k_ => ((P0_0_ k_ ∨ P0_1_ k_ ∨ P1_0_ k_ ∨ P1_1_ k_) ∨ w.heap.size ≤ k_) ∧ k_ ≠ gb166 ∧ k_ ≠ gb167 ∧ k_ ≠ gb168 ∧ k_ ≠ gb169 ∧ k_ ≠ s_.2.2) (.slice A0_1 l0_1.length c0_1) l0_1) ∧ (Kd.V (Kd.int .i64) 3 w' w.heap.size (fun k_ => ((P0_0_ k_ ∨ P0_1_ k_ ∨ P1_0_ k_ ∨ P1_1_ k_) ∨ w.heap.size ≤ k_) ∧ k_ ≠ gb166 ∧ k_ ≠ gb167 ∧ k_ ≠ gb168 ∧ k_ ≠ gb169 ∧ k_ ≠ s_.2.2) (.slice A1_0 l1_0.length c1_0) l1_0) ∧ (Kd.V (Kd.int .i64) 3 w' w.heap.size (fun k_ => ((P0_0_ k_ ∨ P0_1_ k_ ∨ P1_0_ k_ ∨ P1_1_ k_) ∨ w.heap.size ≤ k_) ∧ k_ ≠ gb166 ∧ k_ ≠ gb167 ∧ k_ ≠ gb168 ∧ k_ ≠ gb169 ∧ k_ ≠ s_.2.2) (.slice A1_1 l1_1.length c1_1) l1_1) ∧ (w'.heap[gb166]? = some (.cells #[.slice A0_0 l0_0.length c0_0, .slice A0_1 l0_1.length c0_1] 26 (0, 0))) ∧ (w'.heap[gb167]? = some (.cells #[.slice A1_0 l1_0.length c1_0, .slice A1_1 l1_1.length c1_1] 26 (0, 0))) ∧ (w'.heap[gb168]? = some (.cells #[.slice none 0 0, .slice none 0 0] 26 (0, 0))) ∧ (w'.heap[gb169]? = some (.cells #[.slice none 0 0, .slice none 0 0] 26 (0, 0))) ∧ (w'.heap[s_.2.2]? = some (.cells #[.slice none 0 0, .slice none 0 0] 26 (0, 0))) ∧ (w.heap.size ≤ s_.2.2) ∧ (w.heap.size ≤ s_.2.2) ∧ (gb166 ≠ s_.2.2) ∧ (s_.2.2 ≠ gb166) ∧ (gb167 ≠ s_.2.2) ∧ (s_.2.2 ≠ gb167) ∧ (gb168 ≠ s_.2.2) ∧ (s_.2.2 ≠ gb168) ∧ (gb169 ≠ s_.2.2) ∧ (s_.2.2 ≠ gb169) ∧ (Below w.heap.size w w')) ?_ ?_
         rotate_left
         ·
          intro hJ1_4
          refine join_ (σ := Value × Value × Nat) 4 #[true, true, true, false, false, true, false, false] (fun s_ => [(21, .agg #[s_.1, s_.2.1]), (8, .pointer (some ⟨s_.2.2, 0, none⟩))]) (fun s_ w' => (w'.cell? ⟨gb166, 0, none⟩ = some (.slice A0_0 l0_0.length c0_0) ∧ w'.cell? ⟨gb166, 1, none⟩ = some (.slice A0_1 l0_1.length c0_1) ∧ w'.cell? ⟨gb167, 0, none⟩ = some (.slice A1_0 l1_0.length c1_0) ∧ w'.cell? ⟨gb167, 1, none⟩ = some (.slice A1_1 l1_1.length c1_1)) ∧ (Kd.V (Kd.int .i64) 3 w' w.heap.size (fun k_ => ((P0_0_ k_ ∨ P0_1_ k_ ∨ P1_0_ k_ ∨ P1_1_ k_) ∨ w.heap.size ≤ k_) ∧ k_ ≠ gb166 ∧ k_ ≠ gb167 ∧ k_ ≠ gb168 ∧ k_ ≠ gb169 ∧ k_ ≠ s_.2.2) s_.1 t172) ∧ (Kd.V (Kd.int .i64) 3 w' w.heap.size (fun k_ => ((P0_0_ k_ ∨ P0_1_ k_ ∨ P1_0_ k_ ∨ P1_1_ k_) ∨ w.heap.size ≤ k_) ∧ k_ ≠ gb166 ∧ k_ ≠ gb167 ∧ k_ ≠ gb168 ∧ k_ ≠ gb169 ∧ k_ ≠ s_.2.2) s_.2.1 t175) ∧ (Kd.V (Kd.int .i64) 3 w' w.heap.size (fun k_ => ((P0_0_ k_ ∨ P0_1_ k_ ∨ P1_0_ k_ ∨ P1_1_ k_) ∨ w.heap.size ≤ k_) ∧ k_ ≠ gb166 ∧ k_ ≠ gb167 ∧ k_ ≠ gb168 ∧ k_ ≠ gb169 ∧ k_ ≠ s_.2.2) (.slice A0_0 l0_0.length c0_0) l0_0) ∧ (Kd.V (Kd.int .i64) 3 w' w.heap.size (fun k_ => ((P0_0_ k_ ∨ P0_1_ k_ ∨ P1_0_ k_ ∨ P1_1_ k_) ∨ w.heap.size ≤ k_) ∧ k_ ≠ gb166 ∧ k_ ≠ gb167 ∧ k_ ≠ gb168 ∧ k_ ≠ gb169 ∧ k_ ≠ s_.2.2) (.slice A0_1 l0_1.length c0_1) l0_1) ∧ (Kd.V (Kd.int .i64) 3 w' w.heap.size (fun k_ => ((P0_0_ k_ ∨ P0_1_ k_ ∨ P1_0_ k_ ∨ P1_1_ k_) ∨ w.heap.size ≤ k_) ∧ k_ ≠ gb166 ∧ k_ ≠ gb167 ∧ k_ ≠ gb168 ∧ k_ ≠ gb169 ∧ k_ ≠ s_.2.2) (.slice A1_0 l1_0.length c1_0) l1_0) ∧ (Kd.V (Kd.int .i64) 3 w' w.heap.size (fun k_ => ((P0_0_ k_ ∨ P0_1_ k_ ∨ P1_0_ k_ ∨ P1_1_ k_) ∨ w.heap.size ≤ k_) ∧ k_ ≠ gb166 ∧ k_ ≠ gb167 ∧ k_ ≠ gb168 ∧ k_ ≠ gb169 ∧ k_ ≠ s_.2.2) (.slice A1_1 l1_1.length c1_1) l1_1) ∧ (w'.heap[gb166]? = some (.cells #[.slice A0_0 l0_0.length c0_0, .slice A0_1 l0_1.length c0_1] 26 (0, 0))) ∧ (w'.heap[gb167]? = some (.cells #[.slice A1_0 l1_0.length c1_0, .slice A1_1 l1_1.length c1_1] 26 (0, 0))) ∧ (w'.heap[gb168]? = some (.cells #[.slice none 0 0, .slice none 0 0] 26 (0, 0))) ∧ (w'.heap[gb169]? = some (.cells #[.slice none 0 0, .slice none 0 0] 26 (0, 0))) ∧ (w'.heap[s_.2.2]? = some (.cells #[.slice none 0 0, .slice none 0 0] 26 (0, 0))) ∧ (w.heap.size ≤ s_.2.2) ∧ (w.heap.size ≤ s_.2.2) ∧ (gb166 ≠ s_.2.2) ∧ (s_.2.2 ≠ gb166) ∧ (gb167 ≠ s_.2.2) ∧ (s_.2.2 ≠ gb167) ∧ (gb168 ≠ s_.2.2) ∧ (s_.2.2 ≠ gb168) ∧ (gb169 ≠ s_.2.2) ∧ (s_.2.2 ≠ gb169) ∧ (Below w.heap.size w w')) ?_ ?_
          rotate_left
          ·
           intro hJ1_5
           refine join_ (σ := Nat × Nat) 4 #[true, false, true, false, true, true, false, false] (fun s_ => [(7, .pointer (some ⟨s_.1, 0, none⟩)), (8, .pointer (some ⟨s_.2, 0, none⟩))]) (fun s_ w' => (w'.cell? ⟨gb166, 0, none⟩ = some (.slice A0_0 l0_0.length c0_0) ∧ w'.cell? ⟨gb166, 1, none⟩ = some (.slice A0_1 l0_1.length c0_1) ∧ w'.cell? ⟨gb167, 0, none⟩ = some (.slice A1_0 l1_0.length c1_0) ∧ w'.cell? ⟨gb167, 1, none⟩ = some (.slice A1_1 l1_1.length c1_1)) ∧ (Kd.V (Kd.int .i64) 3 w' w.heap.size (fun k_ => ((P0_0_ k_ ∨ P0_1_ k_ ∨ P1_0_ k_ ∨ P1_1_ k_) ∨ w.heap.size ≤ k_) ∧ k_ ≠ gb166 ∧ k_ ≠ gb167 ∧ k_ ≠ gb168 ∧ k_ ≠ gb169 ∧ k_ ≠ s_.1 ∧ k_ ≠ s_.2) (.slice A0_0 l0_0.length c0_0) l0_0) ∧ (Kd.V (Kd.int .i64) 3 w' w.heap.size (fun k_ => ((P0_0_ k_ ∨ P0_1_ k_ ∨ P1_0_ k_ ∨ P1_1_ k_) ∨ w.heap.size ≤ k_) ∧ k_ ≠ gb166 ∧ k_ ≠ gb167 ∧ k_ ≠ gb168 ∧ k_ ≠ gb169 ∧ k_ ≠ s_.1 ∧ k_ ≠ s_.2) (.slice A0_1 l0_1.length c0_1) l0_1) ∧ (Kd.V (Kd.int .i64) 3 w' w.heap.size (fun k_ => ((P0_0_ k_ ∨ P0_1_ k_ ∨ P1_0_ k_ ∨ P1_1_ k_) ∨ w.heap.size ≤ k_) ∧ k_ ≠ gb166 ∧ k_ ≠ gb167 ∧ k_ ≠ gb168 ∧ k_ ≠ gb169 ∧ k_ ≠ s_.1 ∧ k_ ≠ s_.2) (.slice A1_0 l1_0.length c1_0) l1_0) ∧ (Kd.V (Kd.int .i64) 3 w' w.heap.size (fun k_ => ((P0_0_ k_ ∨ P0_1_ k_ ∨ P1_0_ k_ ∨ P1_1_ k_) ∨ w.heap.size ≤ k_) ∧ k_ ≠ gb166 ∧ k_ ≠ gb167 ∧ k_ ≠ gb168 ∧ k_ ≠ gb169 ∧ k_ ≠ s_.1 ∧ k_ ≠ s_.2) (.slice A1_1 l1_1.length c1_1) l1_1) ∧ (w'.heap[gb166]? = some (.cells #[.slice A0_0 l0_0.length c0_0, .slice A0_1 l0_1.length c0_1] 26 (0, 0))) ∧ (w'.heap[gb167]? = some (.cells #[.slice A1_0 l1_0.length c1_0, .slice A1_1 l1_1.length c1_1] 26 (0, 0))) ∧ (w'.heap[gb168]? = some (.cells #[.slice none 0 0, .slice none 0 0] 26 (0, 0))) ∧ (w'.heap[gb169]? = some (.cells #[.slice none 0 0, .slice none 0 0] 26 (0, 0))) ∧ (w'.heap[s_.1]? = some (.cells #[.slice none 0 0, .slice none 0 0] 26 (0, 0))) ∧ (w'.heap[s_.2]? = some (.cells #[.slice none 0 0, .slice none 0 0] 26 (0, 0))) ∧ (w.heap.size ≤ s_.1) ∧ (w.heap.size ≤ s_.1) ∧ (gb166 ≠ s_.1) ∧ (s_.1 ≠ gb166) ∧ (gb167 ≠ s_.1) ∧ (s_.1 ≠ gb167) ∧ (gb168 ≠ s_.1) ∧ (s_.1 ≠ gb168) ∧ (gb169 ≠ s_.1) ∧ (s_.1 ≠ gb169) ∧ (s_.2 ≠ s_.1) ∧ (s_.1 ≠ s_.2) ∧ (w.heap.size ≤ s_.2) ∧ (w.heap.size ≤ s_.2) ∧ (gb166 ≠ s_.2) ∧ (s_.2 ≠ gb166) ∧ (gb167 ≠ s_.2) ∧ (s_.2 ≠ gb167) ∧ (gb168 ≠ s_.2) ∧ (s_.2 ≠ gb168) ∧ (gb169 ≠ s_.2) ∧ (s_.2 ≠ gb169) ∧ (Below w.heap.size w w')) ?_ ?_
           rotate_left
           ·
            intro hJ4_5
            refine join_ (σ := Value × Value) 5 #[true, true, true, false, false, false, false, false] (fun s_ => [(21, .agg #[s_.1, s_.2])]) (fun s_ w' => (w'.cell? ⟨gb166, 0, none⟩ = some (.slice A0_0 l0_0.length c0_0) ∧ w'.cell? ⟨gb166, 1, none⟩ = some (.slice A0_1 l0_1.length c0_1) ∧ w'.cell? ⟨gb167, 0, none⟩ = some (.slice A1_0 l1_0.length c1_0) ∧ w'.cell? ⟨gb167, 1, none⟩ = some (.slice A1_1 l1_1.length c1_1)) ∧ (Kd.V (Kd.int .i64) 3 w' w.heap.size (fun k_ => ((P0_0_ k_ ∨ P0_1_ k_ ∨ P1_0_ k_ ∨ P1_1_ k_) ∨ w.heap.size ≤ k_) ∧ k_ ≠ gb166 ∧ k_ ≠ gb167 ∧ k_ ≠ gb168 ∧ k_ ≠ gb169) s_.1 t172) ∧ (Kd.V (Kd.int .i64) 3 w' w.heap.size (fun k_ => ((P0_0_ k_ ∨ P0_1_ k_ ∨ P1_0_ k_ ∨ P1_1_ k_) ∨ w.heap.size ≤ k_) ∧ k_ ≠ gb166 ∧ k_ ≠ gb167 ∧ k_ ≠ gb168 ∧ k_ ≠ gb169) s_.2 t175) ∧ (Kd.V (Kd.int .i64) 3 w' w.heap.size (fun k_ => ((P0_0_ k_ ∨ P0_1_ k_ ∨ P1_0_ k_ ∨ P1_1_ k_) ∨ w.heap.size ≤ k_) ∧ k_ ≠ gb166 ∧ k_ ≠ gb167 ∧ k_ ≠ gb168 ∧ k_ ≠ gb169) (.slice A0_0 l0_0.length c0_0) l0_0) ∧ (Kd.V (Kd.int .i64) 3 w' w.heap.size (fun k_ => ((P0_0_ k_ ∨ P0_1_ k_ ∨ P1_0_ k_ ∨ P1_1_ k_) ∨ w.heap.size ≤ k_) ∧ k_ ≠ gb166 ∧ k_ ≠ gb167 ∧ k_ ≠ gb168 ∧ k_ ≠ gb169) (.slice A0_1 l0_1.length c0_1) l0_1) ∧ (Kd.V (Kd.int .i64) 3 w' w.heap.size (fun k_ => ((P0_0_ k_ ∨ P0_1_ k_ ∨ P1_0_ k_ ∨ P1_1_ k_) ∨ w.heap.size ≤ k_) ∧ k_ ≠ gb166 ∧ k_ ≠ gb167 ∧ k_ ≠ gb168 ∧ k_ ≠ gb169) (.slice A1_0 l1_0.length c1_0) l1_0) ∧ (Kd.V (Kd.int .i64) 3 w' w.heap.size (fun k_ => ((P0_0_ k_ ∨ P0_1_ k_ ∨ P1_0_ k_ ∨ P1_1_ k_) ∨ w.heap.size ≤ k_) ∧ k_ ≠ gb166 ∧ k_ ≠ gb167 ∧ k_ ≠ gb168 ∧ k_ ≠ gb169) (.slice A1_1 l1_1.length c1_1) l1_1) ∧ (w'.heap[gb166]? = some (.cells #[.slice A0_0 l0_0.length c0_0, .slice A0_1 l0_1.length c0_1] 26 (0, 0))) ∧ (w'.heap[gb167]? = some (.cells #[.slice A1_0 l1_0.length c1_0, .slice A1_1 l1_1.length c1_1] 26 (0, 0))) ∧ (w'.heap[gb168]? = some (.cells #[.slice none 0 0, .slice none 0 0] 26 (0, 0))) ∧ (w'.heap[gb169]? = some (.cells #[.slice none 0 0, .slice none 0 0] 26 (0, 0))) ∧ (Below w.heap.size w w')) ?_ ?_
            rotate_left
            ·
             intro hJ1
             refine join_ (σ := Nat) 5 #[true, false, true, false, true, false, false, false] (fun s_ => [(7, .pointer (some ⟨s_, 0, none⟩))]) (fun s_ w' => (w'.cell? ⟨gb166, 0, none⟩ = some (.slice A0_0 l0_0.length c0_0) ∧ w'.cell? ⟨gb166, 1, none⟩ = some (.slice A0_1 l0_1.length c0_1) ∧ w'.cell? ⟨gb167, 0, none⟩ = some (.slice A1_0 l1_0.length c1_0) ∧ w'.cell? ⟨gb167, 1, none⟩ = some (.slice A1_1 l1_1.length c1_1)) ∧ (Kd.V (Kd.int .i64) 3 w' w.heap.size (fun k_ => ((P0_0_ k_ ∨ P0_1_ k_ ∨ P1_0_ k_ ∨ P1_1_ k_) ∨ w.heap.size ≤ k_) ∧ k_ ≠ gb166 ∧ k_ ≠ gb167 ∧ k_ ≠ gb168 ∧ k_ ≠ gb169 ∧ k_ ≠ s_) (.slice A0_0 l0_0.length c0_0) l0_0) ∧ (Kd.V (Kd.int .i64) 3 w' w.heap.size (fun k_ => ((P0_0_ k_ ∨ P0_1_ k_ ∨ P1_0_ k_ ∨ P1_1_ k_) ∨ w.heap.size ≤ k_) ∧ k_ ≠ gb166 ∧ k_ ≠ gb167 ∧ k_ ≠ gb168 ∧ k_ ≠ gb169 ∧ k_ ≠ s_) (.slice A0_1 l0_1.length c0_1) l0_1) ∧ (Kd.V (Kd.int .i64) 3 w' w.heap.size (fun k_ => ((P0_0_ k_ ∨ P0_1_ k_ ∨ P1_0_ k_ ∨ P1_1_ k_) ∨ w.heap.size ≤ k_) ∧ k_ ≠ gb166 ∧ k_ ≠ gb167 ∧ k_ ≠ gb168 ∧ k_ ≠ gb169 ∧ k_ ≠ s_) (.slice A1_0 l1_0.length c1_0) l1_0) ∧ (Kd.V (Kd.int .i64) 3 w' w.heap.size (fun k_ => ((P0_0_ k_ ∨ P0_1_ k_ ∨ P1_0_ k_ ∨ P1_1_ k_) ∨ w.heap.size ≤ k_) ∧ k_ ≠ gb166 ∧ k_ ≠ gb167 ∧ k_ ≠ gb168 ∧ k_ ≠ gb169 ∧ k_ ≠ s_) (.slice A1_1 l1_1.length c1_1) l1_1) ∧ (w'.heap[gb166]? = some (.cells #[.slice A0_0 l0_0.length c0_0, .slice A0_1 l0_1.length c0_1] 26 (0, 0))) ∧ (w'.heap[gb167]? = some (.cells #[.slice A1_0 l1_0.length c1_0, .slice A1_1 l1_1.length c1_1] 26 (0, 0))) ∧ (w'.heap[gb168]? = some (.cells #[.slice none 0 0, .slice none 0 0] 26 (0, 0))) ∧ (w'.heap[gb169]? = some (.cells #[.slice none 0 0, .slice none 0 0] 26 (0, 0))) ∧ (w'.heap[s_]? = some (.cells #[.slice none 0 0, .slice none 0 0] 26 (0, 0))) ∧ (w.heap.size ≤ s_) ∧ (w.heap.size ≤ s_) ∧ (gb166 ≠ s_) ∧ (s_ ≠ gb166) ∧ (gb167 ≠ s_) ∧ (s_ ≠ gb167) ∧ (gb168 ≠ s_) ∧ (s_ ≠ gb168) ∧ (gb169 ≠ s_) ∧ (s_ ≠ gb169) ∧ (Below w.heap.size w w')) ?_ ?_
             rotate_left
             ·
              intro hJ4
              refine join_ (σ := Nat) 5 #[true, false, true, false, false, true, false, false] (fun s_ => [(8, .pointer (some ⟨s_, 0, none⟩))]) (fun s_ w' => (w'.cell? ⟨gb166, 0, none⟩ = some (.slice A0_0 l0_0.length c0_0) ∧ w'.cell? ⟨gb166, 1, none⟩ = some (.slice A0_1 l0_1.length c0_1) ∧ w'.cell? ⟨gb167, 0, none⟩ = some (.slice A1_0 l1_0.length c1_0) ∧ w'.cell? ⟨gb167, 1, none⟩ = some (.slice A1_1 l1_1.length c1_1)) ∧ (Kd.V (Kd.int .i64) 3 w' w.heap.size (fun k_ => ((P0_0_ k_ ∨ P0_1_ k_ ∨ P1_0_ k_ ∨ P1_1_ k_) ∨ w.heap.size ≤ k_) ∧ k_ ≠ gb166 ∧ k_ ≠ gb167 ∧ k_ ≠ gb168 ∧ k_ ≠ gb169 ∧ k_ ≠ s_) (.slice A0_0 l0_0.length c0_0) l0_0) ∧ (Kd.V (Kd.int .i64) 3 w' w.heap.size (fun k_ => ((P0_0_ k_ ∨ P0_1_ k_ ∨ P1_0_ k_ ∨ P1_1_ k_) ∨ w.heap.size ≤ k_) ∧ k_ ≠ gb166 ∧ k_ ≠ gb167 ∧ k_ ≠ gb168 ∧ k_ ≠ gb169 ∧ k_ ≠ s_) (.slice A0_1 l0_1.length c0_1) l0_1) ∧ (Kd.V (Kd.int .i64) 3 w' w.heap.size (fun k_ => ((P0_0_ k_ ∨ P0_1_ k_ ∨ P1_0_ k_ ∨ P1_1_ k_) ∨ w.heap.size ≤ k_) ∧ k_ ≠ gb166 ∧ k_ ≠ gb167 ∧ k_ ≠ gb168 ∧ k_ ≠ gb169 ∧ k_ ≠ s_) (.slice A1_0 l1_0.length c1_0) l1_0) ∧ (Kd.V (Kd.int .i64) 3 w' w.heap.size (fun k_ => ((P0_0_ k_ ∨ P0_1_ k_ ∨ P1_0_ k_ ∨ P1_1_ k_) ∨ w.heap.size ≤ k_) ∧ k_ ≠ gb166 ∧ k_ ≠ gb167 ∧ k_ ≠ gb168 ∧ k_ ≠ gb169 ∧ k_ ≠ s_) (.slice A1_1 l1_1.length c1_1) l1_1) ∧ (w'.heap[gb166]? = some (.cells #[.slice A0_0 l0_0.length c0_0, .slice A0_1 l0_1.length c0_1] 26 (0, 0))) ∧ (w'.heap[gb167]? = some (.cells #[.slice A1_0 l1_0.length c1_0, .slice A1_1 l1_1.length c1_1] 26 (0, 0))) ∧ (w'.heap[gb168]? = some (.cells #[.slice none 0 0, .slice none 0 0] 26 (0, 0))) ∧ (w'.heap[gb169]? = some (.cells #[.slice none 0 0, .slice none 0 0] 26 (0, 0))) ∧ (w'.heap[s_]? = some (.cells #[.slice none 0 0, .slice none 0 0] 26 (0, 0))) ∧ (w.heap.size ≤ s_) ∧ (w.heap.size ≤ s_) ∧ (gb166 ≠ s_) ∧ (s_ ≠ gb166) ∧ (gb167 ≠ s_) ∧ (s_ ≠ gb167) ∧ (gb168 ≠ s_) ∧ (s_ ≠ gb168) ∧ (gb169 ≠ s_) ∧ (s_ ≠ gb169) ∧ (Below w.heap.size w w')) ?_ ?_
              rotate_left
              ·
               intro hJ5
               refine three_ (i := 1) (j := 4) (k := 5) (Ni := some 21) (Nj := some 7) (Nk := some 8) #[true, true, true, false, false, false, false, false] #[true, false, true, false, true, false, false, false] #[true, false, true, false, false, true, false, false] rfl rfl rfl rfl rfl rfl (three_of HT_.out (by kernel_rfl)) (by decide) (by decide) (by decide) (fun K hK => ?_) (fun K hK => ?_) (fun K hK => ?_)
               ·
                skip
                refine goes_ Try.func100 (by kernel_rfl) rfl #[.agg #[.slice A0_0 l0_0.length c0_0, .slice A0_1 l0_1.length c0_1]] (by rfl) rfl rfl lU ?_
                with_reducible refine (spec_l5Vector.calls (fun k_ => (((P0_0_ k_ ∨ P0_1_ k_ ∨ P1_0_ k_ ∨ P1_1_ k_) ∨ w.heap.size ≤ k_) ∧ (k_ ≠ gb166 ∧ (k_ ≠ gb167 ∧ (k_ ≠ gb168 ∧ k_ ≠ gb169))))) _ _ l0_0 (fun k_ => (((P0_0_ k_ ∨ P0_1_ k_ ∨ P1_0_ k_ ∨ P1_1_ k_) ∨ w.heap.size ≤ k_) ∧ (k_ ≠ gb166 ∧ (k_ ≠ gb167 ∧ (k_ ≠ gb168 ∧ k_ ≠ gb169))))) _ _ l0_1 t172 t175 _ ?side1 ?side2 A37.out).mono ?_
                (case side1 => exact HO_167000.out)
                (case side2 => exact HO_167001.out)
                rintro e w52 ⟨v173, v176, rfl, ho0, ho1, hb⟩
                refine ⟨_, rfl, ?_⟩
                replace HO_167000 := Aside0.mk (Kd.V_below (VU HO_167000.out) hb)
                replace HO_167001 := Aside0.mk (Kd.V_below (VU HO_167001.out) hb)
                replace HO_168000 := Aside0.mk (Kd.V_below (VU HO_168000.out) hb)
                replace HO_168001 := Aside0.mk (Kd.V_below (VU HO_168001.out) hb)
                have HO174 := Aside0.mk (Kd.V_lower (Kd.V_mono (ok' := fun k_ => ((P0_0_ k_ ∨ P0_1_ k_ ∨ P1_0_ k_ ∨ P1_1_ k_) ∨ w.heap.size ≤ k_) ∧ k_ ≠ gb166 ∧ k_ ≠ gb167 ∧ k_ ≠ gb168 ∧ k_ ≠ gb169) ho0 (fun k_ hk_ => ⟨Or.elim hk_ (fun hs_ => Or.elim hs_ (fun hs_ => hs_.1) (fun hs_ => hs_.1)) (fun hn_ => (.inr (Nat.le_trans (below_size (bS4 HB.out GE166.out GE167.out GE168.out GE169.out)) hn_))), Or.elim hk_ (fun hs_ => Or.elim hs_ (fun hs_ => hs_.2.1) (fun hs_ => hs_.2.1)) (fun hn_ => (Kd.freshB (g := gb166) (o := .cells #[.slice A0_0 l0_0.length c0_0, .slice A0_1 l0_1.length c0_1] 26 (0, 0)) (kU BK166.out) k_ hn_)), Or.elim hk_ (fun hs_ => Or.elim hs_ (fun hs_ => hs_.2.2.1) (fun hs_ => hs_.2.2.1)) (fun hn_ => (Kd.freshB (g := gb167) (o := .cells #[.slice A1_0 l1_0.length c1_0, .slice A1_1 l1_1.length c1_1] 26 (0, 0)) (kU BK167.out) k_ hn_)), Or.elim hk_ (fun hs_ => Or.elim hs_ (fun hs_ => hs_.2.2.2.1) (fun hs_ => hs_.2.2.2.1)) (fun hn_ => (Kd.freshB (g := gb168) (o := .cells #[.slice none 0 0, .slice none 0 0] 26 (0, 0)) (kU BK168.out) k_ hn_)), Or.elim hk_ (fun hs_ => Or.elim hs_ (fun hs_ => hs_.2.2.2.2) (fun hs_ => hs_.2.2.2.2)) (fun hn_ => (Kd.freshB (g := gb169) (o := .cells #[.slice none 0 0, .slice none 0 0] 26 (0, 0)) (kU BK169.out) k_ hn_))⟩)) (below_size (bS4 HB.out GE166.out GE167.out GE168.out GE169.out)))
                have HO177 := Aside0.mk (Kd.V_lower (Kd.V_mono (ok' := fun k_ => ((P0_0_ k_ ∨ P0_1_ k_ ∨ P1_0_ k_ ∨ P1_1_ k_) ∨ w.heap.size ≤ k_) ∧ k_ ≠ gb166 ∧ k_ ≠ gb167 ∧ k_ ≠ gb168 ∧ k_ ≠ gb169) ho1 (fun k_ hk_ => ⟨Or.elim hk_ (fun hs_ => Or.elim hs_ (fun hs_ => hs_.1) (fun hs_ => hs_.1)) (fun hn_ => (.inr (Nat.le_trans (below_size (bS4 HB.out GE166.out GE167.out GE168.out GE169.out)) hn_))), Or.elim hk_ (fun hs_ => Or.elim hs_ (fun hs_ => hs_.2.1) (fun hs_ => hs_.2.1)) (fun hn_ => (Kd.freshB (g := gb166) (o := .cells #[.slice A0_0 l0_0.length c0_0, .slice A0_1 l0_1.length c0_1] 26 (0, 0)) (kU BK166.out) k_ hn_)), Or.elim hk_ (fun hs_ => Or.elim hs_ (fun hs_ => hs_.2.2.1) (fun hs_ => hs_.2.2.1)) (fun hn_ => (Kd.freshB (g := gb167) (o := .cells #[.slice A1_0 l1_0.length c1_0, .slice A1_1 l1_1.length c1_1] 26 (0, 0)) (kU BK167.out) k_ hn_)), Or.elim hk_ (fun hs_ => Or.elim hs_ (fun hs_ => hs_.2.2.2.1) (fun hs_ => hs_.2.2.2.1)) (fun hn_ => (Kd.freshB (g := gb168) (o := .cells #[.slice none 0 0, .slice none 0 0] 26 (0, 0)) (kU BK168.out) k_ hn_)), Or.elim hk_ (fun hs_ => Or.elim hs_ (fun hs_ => hs_.2.2.2.2) (fun hs_ => hs_.2.2.2.2)) (fun hn_ => (Kd.freshB (g := gb169) (o := .cells #[.slice none 0 0, .slice none 0 0] 26 (0, 0)) (kU BK169.out) k_ hn_))⟩)) (below_size (bS4 HB.out GE166.out GE167.out GE168.out GE169.out)))
                replace BK166 := Aside0.mk (kB BK166.out hb)
                replace BK167 := Aside0.mk (kB BK167.out hb)
                replace BK168 := Aside0.mk (kB BK168.out hb)
                replace BK169 := Aside0.mk (kB BK169.out hb)
                replace HB := Aside0.mk (below_step (bS4 HB.out GE166.out GE167.out GE168.out GE169.out) hb)
                (try clear hb)
                (try clear hb2)
                (try clear hk)
                (try clear hi)
                (try clear ho0)
                (try clear ho1)
                refine hK.out _ _ ⟨(blk_cell BK166.out 0).trans rfl, (blk_cell BK166.out 1).trans rfl, (blk_cell BK167.out 0).trans rfl, (blk_cell BK167.out 1).trans rfl⟩ (fun hHeld => ?_)
                clear hK K
                refine norm_ (a' := ?_) ?_ ?_
                rotate_left
                ·
                 show Act.put _ (some 21) _ = _
                 simp only [Act.put, List.setIfInBounds_toArray, List.set_cons_zero, List.set_cons_succ, i64_w, i32_w]
                 rfl
                exact norm_ (by first | (simp only [putAll, Act.put, List.setIfInBounds_toArray, List.set_cons_zero, List.set_cons_succ]; done) | (simp only [putAll, Act.put, List.setIfInBounds_toArray, List.set_cons_zero, List.set_cons_succ]; rfl)) (hJ1 (v173, v176) _ ⟨hHeld, (VU HO174.out), (VU HO177.out), (VU HO_167000.out), (VU HO_167001.out), (VU HO_168000.out), (VU HO_168001.out), (kU BK166.out), (kU BK167.out), (kU BK168.out), (kU BK169.out), (bS4 HB.out GE166.out GE167.out GE168.out GE169.out)⟩)
               ·
                skip
                refine box_step ?hg (N := 7) ?hd (cs := #[.slice none 0 0, .slice none 0 0]) (t := 26) ?hr ?_; (case hd => rfl); (case hg => rfl); (case hr => first | (go_simp; done) | (go_simp; rfl))
                intro gb184 hg w52 hbox hb
                replace HO_167000 := Aside0.mk (Kd.V_below (Kd.V_elderB (VU HO_167000.out) gb184 (Nat.le_of_eq hg.symm)) hb)
                replace HO_167001 := Aside0.mk (Kd.V_below (Kd.V_elderB (VU HO_167001.out) gb184 (Nat.le_of_eq hg.symm)) hb)
                replace HO_168000 := Aside0.mk (Kd.V_below (Kd.V_elderB (VU HO_168000.out) gb184 (Nat.le_of_eq hg.symm)) hb)
                replace HO_168001 := Aside0.mk (Kd.V_below (Kd.V_elderB (VU HO_168001.out) gb184 (Nat.le_of_eq hg.symm)) hb)
                have BK184 := Aside0.mk (hbox)
                have GW184 := Aside0.mk ((by rw [hg]; exact (below_size (bS4 HB.out GE166.out GE167.out GE168.out GE169.out)) : w.heap.size ≤ gb184))
                have GE184 := Aside0.mk ((by rw [hg]; exact (below_size (bS4 HB.out GE166.out GE167.out GE168.out GE169.out)) : w.heap.size ≤ gb184))
                replace HB := Aside0.mk (below_step (bS4 HB.out GE166.out GE167.out GE168.out GE169.out) hb)
                have NB166_184 := Aside0.mk (kN BK166.out hg)
                have NB184_166 := Aside0.mk (kM BK166.out hg)
                replace BK166 := Aside0.mk (kB BK166.out hb)
                have NB167_184 := Aside0.mk (kN BK167.out hg)
                have NB184_167 := Aside0.mk (kM BK167.out hg)
                replace BK167 := Aside0.mk (kB BK167.out hb)
                have NB168_184 := Aside0.mk (kN BK168.out hg)
                have NB184_168 := Aside0.mk (kM BK168.out hg)
                replace BK168 := Aside0.mk (kB BK168.out hb)
                have NB169_184 := Aside0.mk (kN BK169.out hg)
                have NB184_169 := Aside0.mk (kM BK169.out hg)
                replace BK169 := Aside0.mk (kB BK169.out hb)
                clear hb hbox hg
                refine hK.out _ _ ⟨(blk_cell BK166.out 0).trans rfl, (blk_cell BK166.out 1).trans rfl, (blk_cell BK167.out 0).trans rfl, (blk_cell BK167.out 1).trans rfl⟩ (fun hHeld => ?_)
                clear hK K
                refine norm_ (a' := ?_) ?_ ?_
                rotate_left
                ·
                 show Act.put _ (some 7) _ = _
                 simp only [Act.put, List.setIfInBounds_toArray, List.set_cons_zero, List.set_cons_succ, i64_w, i32_w]
                 rfl
                exact norm_ (by first | (simp only [putAll, Act.put, List.setIfInBounds_toArray, List.set_cons_zero, List.set_cons_succ]; done) | (simp only [putAll, Act.put, List.setIfInBounds_toArray, List.set_cons_zero, List.set_cons_succ]; rfl)) (hJ4 (gb184) _ ⟨hHeld, (by refine VU ?_; exact Kd.V_mono HO_167000.out (fun _ hk => ⟨hk.1.1, ⟨hk.1.2.1, ⟨hk.1.2.2.1, ⟨hk.1.2.2.2.1, ⟨hk.1.2.2.2.2, hk.2⟩⟩⟩⟩⟩)), (by refine VU ?_; exact Kd.V_mono HO_167001.out (fun _ hk => ⟨hk.1.1, ⟨hk.1.2.1, ⟨hk.1.2.2.1, ⟨hk.1.2.2.2.1, ⟨hk.1.2.2.2.2, hk.2⟩⟩⟩⟩⟩)), (by refine VU ?_; exact Kd.V_mono HO_168000.out (fun _ hk => ⟨hk.1.1, ⟨hk.1.2.1, ⟨hk.1.2.2.1, ⟨hk.1.2.2.2.1, ⟨hk.1.2.2.2.2, hk.2⟩⟩⟩⟩⟩)), (by refine VU ?_; exact Kd.V_mono HO_168001.out (fun _ hk => ⟨hk.1.1, ⟨hk.1.2.1, ⟨hk.1.2.2.1, ⟨hk.1.2.2.2.1, ⟨hk.1.2.2.2.2, hk.2⟩⟩⟩⟩⟩)), (kU BK166.out), (kU BK167.out), (kU BK168.out), (kU BK169.out), (kU BK184.out), GW184.out, GE184.out, NB166_184.out, NB184_166.out, NB167_184.out, NB184_167.out, NB168_184.out, NB184_168.out, NB169_184.out, NB184_169.out, (bS5 HB.out GE166.out GE167.out GE168.out GE169.out GE184.out)⟩)
               ·
                skip
                refine box_step ?hg (N := 8) ?hd (cs := #[.slice none 0 0, .slice none 0 0]) (t := 26) ?hr ?_; (case hd => rfl); (case hg => rfl); (case hr => first | (go_simp; done) | (go_simp; rfl))
                intro gb185 hg w52 hbox hb
                replace HO_167000 := Aside0.mk (Kd.V_below (Kd.V_elderB (VU HO_167000.out) gb185 (Nat.le_of_eq hg.symm)) hb)
                replace HO_167001 := Aside0.mk (Kd.V_below (Kd.V_elderB (VU HO_167001.out) gb185 (Nat.le_of_eq hg.symm)) hb)
                replace HO_168000 := Aside0.mk (Kd.V_below (Kd.V_elderB (VU HO_168000.out) gb185 (Nat.le_of_eq hg.symm)) hb)
                replace HO_168001 := Aside0.mk (Kd.V_below (Kd.V_elderB (VU HO_168001.out) gb185 (Nat.le_of_eq hg.symm)) hb)
                have BK185 := Aside0.mk (hbox)
                have GW185 := Aside0.mk ((by rw [hg]; exact (below_size (bS4 HB.out GE166.out GE167.out GE168.out GE169.out)) : w.heap.size ≤ gb185))
                have GE185 := Aside0.mk ((by rw [hg]; exact (below_size (bS4 HB.out GE166.out GE167.out GE168.out GE169.out)) : w.heap.size ≤ gb185))
                replace HB := Aside0.mk (below_step (bS4 HB.out GE166.out GE167.out GE168.out GE169.out) hb)
                have NB166_185 := Aside0.mk (kN BK166.out hg)
                have NB185_166 := Aside0.mk (kM BK166.out hg)
                replace BK166 := Aside0.mk (kB BK166.out hb)
                have NB167_185 := Aside0.mk (kN BK167.out hg)
                have NB185_167 := Aside0.mk (kM BK167.out hg)
                replace BK167 := Aside0.mk (kB BK167.out hb)
                have NB168_185 := Aside0.mk (kN BK168.out hg)
                have NB185_168 := Aside0.mk (kM BK168.out hg)
                replace BK168 := Aside0.mk (kB BK168.out hb)
                have NB169_185 := Aside0.mk (kN BK169.out hg)
                have NB185_169 := Aside0.mk (kM BK169.out hg)
                replace BK169 := Aside0.mk (kB BK169.out hb)
                clear hb hbox hg
                refine hK.out _ _ ⟨(blk_cell BK166.out 0).trans rfl, (blk_cell BK166.out 1).trans rfl, (blk_cell BK167.out 0).trans rfl, (blk_cell BK167.out 1).trans rfl⟩ (fun hHeld => ?_)
                clear hK K
                refine norm_ (a' := ?_) ?_ ?_
                rotate_left
                ·
                 show Act.put _ (some 8) _ = _
                 simp only [Act.put, List.setIfInBounds_toArray, List.set_cons_zero, List.set_cons_succ, i64_w, i32_w]
                 rfl
                exact norm_ (by first | (simp only [putAll, Act.put, List.setIfInBounds_toArray, List.set_cons_zero, List.set_cons_succ]; done) | (simp only [putAll, Act.put, List.setIfInBounds_toArray, List.set_cons_zero, List.set_cons_succ]; rfl)) (hJ5 (gb185) _ ⟨hHeld, (by refine VU ?_; exact Kd.V_mono HO_167000.out (fun _ hk => ⟨hk.1.1, ⟨hk.1.2.1, ⟨hk.1.2.2.1, ⟨hk.1.2.2.2.1, ⟨hk.1.2.2.2.2, hk.2⟩⟩⟩⟩⟩)), (by refine VU ?_; exact Kd.V_mono HO_167001.out (fun _ hk => ⟨hk.1.1, ⟨hk.1.2.1, ⟨hk.1.2.2.1, ⟨hk.1.2.2.2.1, ⟨hk.1.2.2.2.2, hk.2⟩⟩⟩⟩⟩)), (by refine VU ?_; exact Kd.V_mono HO_168000.out (fun _ hk => ⟨hk.1.1, ⟨hk.1.2.1, ⟨hk.1.2.2.1, ⟨hk.1.2.2.2.1, ⟨hk.1.2.2.2.2, hk.2⟩⟩⟩⟩⟩)), (by refine VU ?_; exact Kd.V_mono HO_168001.out (fun _ hk => ⟨hk.1.1, ⟨hk.1.2.1, ⟨hk.1.2.2.1, ⟨hk.1.2.2.2.1, ⟨hk.1.2.2.2.2, hk.2⟩⟩⟩⟩⟩)), (kU BK166.out), (kU BK167.out), (kU BK168.out), (kU BK169.out), (kU BK185.out), GW185.out, GE185.out, NB166_185.out, NB185_166.out, NB167_185.out, NB185_167.out, NB168_185.out, NB185_168.out, NB169_185.out, NB185_169.out, (bS5 HB.out GE166.out GE167.out GE168.out GE169.out GE185.out)⟩)
              ·
               skip
               rintro gb185 w53 ⟨hS_, h0_, h1_, h2_, h3_, h4_, h5_, h6_, h7_, h8_, h9_, h10_, h11_, h12_, h13_, h14_, h15_, h16_, h17_, h18_, h19_⟩
               have n0_ : Aside0 (Kd.V (Kd.int .i64) 3 w53 w.heap.size (fun k_ => ((P0_0_ k_ ∨ P0_1_ k_ ∨ P1_0_ k_ ∨ P1_1_ k_) ∨ w.heap.size ≤ k_) ∧ k_ ≠ gb166 ∧ k_ ≠ gb167 ∧ k_ ≠ gb168 ∧ k_ ≠ gb169 ∧ k_ ≠ gb185) (.slice A0_0 l0_0.length c0_0) l0_0) := ⟨h0_⟩
               have n1_ : Aside0 (Kd.V (Kd.int .i64) 3 w53 w.heap.size (fun k_ => ((P0_0_ k_ ∨ P0_1_ k_ ∨ P1_0_ k_ ∨ P1_1_ k_) ∨ w.heap.size ≤ k_) ∧ k_ ≠ gb166 ∧ k_ ≠ gb167 ∧ k_ ≠ gb168 ∧ k_ ≠ gb169 ∧ k_ ≠ gb185) (.slice A0_1 l0_1.length c0_1) l0_1) := ⟨h1_⟩
               have n2_ : Aside0 (Kd.V (Kd.int .i64) 3 w53 w.heap.size (fun k_ => ((P0_0_ k_ ∨ P0_1_ k_ ∨ P1_0_ k_ ∨ P1_1_ k_) ∨ w.heap.size ≤ k_) ∧ k_ ≠ gb166 ∧ k_ ≠ gb167 ∧ k_ ≠ gb168 ∧ k_ ≠ gb169 ∧ k_ ≠ gb185) (.slice A1_0 l1_0.length c1_0) l1_0) := ⟨h2_⟩
               have n3_ : Aside0 (Kd.V (Kd.int .i64) 3 w53 w.heap.size (fun k_ => ((P0_0_ k_ ∨ P0_1_ k_ ∨ P1_0_ k_ ∨ P1_1_ k_) ∨ w.heap.size ≤ k_) ∧ k_ ≠ gb166 ∧ k_ ≠ gb167 ∧ k_ ≠ gb168 ∧ k_ ≠ gb169 ∧ k_ ≠ gb185) (.slice A1_1 l1_1.length c1_1) l1_1) := ⟨h3_⟩
               have n4_ : Aside0 (w53.heap[gb166]? = some (.cells #[.slice A0_0 l0_0.length c0_0, .slice A0_1 l0_1.length c0_1] 26 (0, 0))) := ⟨h4_⟩
               have n5_ : Aside0 (w53.heap[gb167]? = some (.cells #[.slice A1_0 l1_0.length c1_0, .slice A1_1 l1_1.length c1_1] 26 (0, 0))) := ⟨h5_⟩
               have n6_ : Aside0 (w53.heap[gb168]? = some (.cells #[.slice none 0 0, .slice none 0 0] 26 (0, 0))) := ⟨h6_⟩
               have n7_ : Aside0 (w53.heap[gb169]? = some (.cells #[.slice none 0 0, .slice none 0 0] 26 (0, 0))) := ⟨h7_⟩
               have n8_ : Aside0 (w53.heap[gb185]? = some (.cells #[.slice none 0 0, .slice none 0 0] 26 (0, 0))) := ⟨h8_⟩
               have n9_ : Aside0 (w.heap.size ≤ gb185) := ⟨h9_⟩
               have n10_ : Aside0 (w.heap.size ≤ gb185) := ⟨h10_⟩
               have n11_ : Aside0 (gb166 ≠ gb185) := ⟨h11_⟩
               have n12_ : Aside0 (gb185 ≠ gb166) := ⟨h12_⟩
               have n13_ : Aside0 (gb167 ≠ gb185) := ⟨h13_⟩
               have n14_ : Aside0 (gb185 ≠ gb167) := ⟨h14_⟩
               have n15_ : Aside0 (gb168 ≠ gb185) := ⟨h15_⟩
               have n16_ : Aside0 (gb185 ≠ gb168) := ⟨h16_⟩
               have n17_ : Aside0 (gb169 ≠ gb185) := ⟨h17_⟩
               have n18_ : Aside0 (gb185 ≠ gb169) := ⟨h18_⟩
               have n19_ : Aside0 (Below w.heap.size w w53) := ⟨h19_⟩
               clear HO_167000 HO_167001 HO_168000 HO_168001 BK166 BK167 BK168 BK169 HB
               clear h0_ h1_ h2_ h3_ h4_ h5_ h6_ h7_ h8_ h9_ h10_ h11_ h12_ h13_ h14_ h15_ h16_ h17_ h18_ h19_
               have HO_167000 := n0_
               have HO_167001 := n1_
               have HO_168000 := n2_
               have HO_168001 := n3_
               have BK166 := n4_
               have BK167 := n5_
               have BK168 := n6_
               have BK169 := n7_
               have BK185 := n8_
               have GW185 := n9_
               have GE185 := n10_
               have NB166_185 := n11_
               have NB185_166 := n12_
               have NB167_185 := n13_
               have NB185_167 := n14_
               have NB168_185 := n15_
               have NB185_168 := n16_
               have NB169_185 := n17_
               have NB185_169 := n18_
               have HB := n19_
               clear n0_ n1_ n2_ n3_ n4_ n5_ n6_ n7_ n8_ n9_ n10_ n11_ n12_ n13_ n14_ n15_ n16_ n17_ n18_ n19_
               have hHeld : w53.cell? ⟨gb166, 0, none⟩ = some (.slice A0_0 l0_0.length c0_0) ∧ w53.cell? ⟨gb166, 1, none⟩ = some (.slice A0_1 l0_1.length c0_1) ∧ w53.cell? ⟨gb167, 0, none⟩ = some (.slice A1_0 l1_0.length c1_0) ∧ w53.cell? ⟨gb167, 1, none⟩ = some (.slice A1_1 l1_1.length c1_1) := hS_
               refine norm_ (a' := ?_) ?_ ?_
               rotate_left
               ·
                simp only [putAll, Act.put, List.setIfInBounds_toArray, List.set_cons_zero, List.set_cons_succ]
                rfl
               refine two_ (i := 1) (j := 4) (Ni := some 21) (Nj := some 7) #[true, true, true, false, false, true, false, false] #[true, false, true, false, true, true, false, false] rfl rfl rfl rfl (two_of HT_.out (by kernel_rfl)) (by decide) (by decide) (fun K hK => ?_) (fun K hK => ?_)
               ·
                skip
                refine goes_ Try.func100 (by kernel_rfl) rfl #[.agg #[.slice A0_0 l0_0.length c0_0, .slice A0_1 l0_1.length c0_1]] (by rfl) rfl rfl lU ?_
                with_reducible refine (spec_l5Vector.calls (fun k_ => (((P0_0_ k_ ∨ P0_1_ k_ ∨ P1_0_ k_ ∨ P1_1_ k_) ∨ w.heap.size ≤ k_) ∧ (k_ ≠ gb166 ∧ (k_ ≠ gb167 ∧ (k_ ≠ gb168 ∧ (k_ ≠ gb169 ∧ k_ ≠ gb185)))))) _ _ l0_0 (fun k_ => (((P0_0_ k_ ∨ P0_1_ k_ ∨ P1_0_ k_ ∨ P1_1_ k_) ∨ w.heap.size ≤ k_) ∧ (k_ ≠ gb166 ∧ (k_ ≠ gb167 ∧ (k_ ≠ gb168 ∧ (k_ ≠ gb169 ∧ k_ ≠ gb185)))))) _ _ l0_1 t172 t175 _ ?side1 ?side2 A37.out).mono ?_
                (case side1 => exact HO_167000.out)
                (case side2 => exact HO_167001.out)
                rintro e w54 ⟨v173, v176, rfl, ho0, ho1, hb⟩
                refine ⟨_, rfl, ?_⟩
                replace HO_167000 := Aside0.mk (Kd.V_below (VU HO_167000.out) hb)
                replace HO_167001 := Aside0.mk (Kd.V_below (VU HO_167001.out) hb)
                replace HO_168000 := Aside0.mk (Kd.V_below (VU HO_168000.out) hb)
                replace HO_168001 := Aside0.mk (Kd.V_below (VU HO_168001.out) hb)
                have HO174 := Aside0.mk (Kd.V_lower (Kd.V_mono (ok' := fun k_ => ((P0_0_ k_ ∨ P0_1_ k_ ∨ P1_0_ k_ ∨ P1_1_ k_) ∨ w.heap.size ≤ k_) ∧ k_ ≠ gb166 ∧ k_ ≠ gb167 ∧ k_ ≠ gb168 ∧ k_ ≠ gb169 ∧ k_ ≠ gb185) ho0 (fun k_ hk_ => ⟨Or.elim hk_ (fun hs_ => Or.elim hs_ (fun hs_ => hs_.1) (fun hs_ => hs_.1)) (fun hn_ => (.inr (Nat.le_trans (below_size (bS5 HB.out GE166.out GE167.out GE168.out GE169.out GE185.out)) hn_))), Or.elim hk_ (fun hs_ => Or.elim hs_ (fun hs_ => hs_.2.1) (fun hs_ => hs_.2.1)) (fun hn_ => (Kd.freshB (g := gb166) (o := .cells #[.slice A0_0 l0_0.length c0_0, .slice A0_1 l0_1.length c0_1] 26 (0, 0)) (kU BK166.out) k_ hn_)), Or.elim hk_ (fun hs_ => Or.elim hs_ (fun hs_ => hs_.2.2.1) (fun hs_ => hs_.2.2.1)) (fun hn_ => (Kd.freshB (g := gb167) (o := .cells #[.slice A1_0 l1_0.length c1_0, .slice A1_1 l1_1.length c1_1] 26 (0, 0)) (kU BK167.out) k_ hn_)), Or.elim hk_ (fun hs_ => Or.elim hs_ (fun hs_ => hs_.2.2.2.1) (fun hs_ => hs_.2.2.2.1)) (fun hn_ => (Kd.freshB (g := gb168) (o := .cells #[.slice none 0 0, .slice none 0 0] 26 (0, 0)) (kU BK168.out) k_ hn_)), Or.elim hk_ (fun hs_ => Or.elim hs_ (fun hs_ => hs_.2.2.2.2.1) (fun hs_ => hs_.2.2.2.2.1)) (fun hn_ => (Kd.freshB (g := gb169) (o := .cells #[.slice none 0 0, .slice none 0 0] 26 (0, 0)) (kU BK169.out) k_ hn_)), Or.elim hk_ (fun hs_ => Or.elim hs_ (fun hs_ => hs_.2.2.2.2.2) (fun hs_ => hs_.2.2.2.2.2)) (fun hn_ => (Kd.freshB (g := gb185) (o := .cells #[.slice none 0 0, .slice none 0 0] 26 (0, 0)) (kU BK185.out) k_ hn_))⟩)) (below_size (bS5 HB.out GE166.out GE167.out GE168.out GE169.out GE185.out)))
                have HO177 := Aside0.mk (Kd.V_lower (Kd.V_mono (ok' := fun k_ => ((P0_0_ k_ ∨ P0_1_ k_ ∨ P1_0_ k_ ∨ P1_1_ k_) ∨ w.heap.size ≤ k_) ∧ k_ ≠ gb166 ∧ k_ ≠ gb167 ∧ k_ ≠ gb168 ∧ k_ ≠ gb169 ∧ k_ ≠ gb185) ho1 (fun k_ hk_ => ⟨Or.elim hk_ (fun hs_ => Or.elim hs_ (fun hs_ => hs_.1) (fun hs_ => hs_.1)) (fun hn_ => (.inr (Nat.le_trans (below_size (bS5 HB.out GE166.out GE167.out GE168.out GE169.out GE185.out)) hn_))), Or.elim hk_ (fun hs_ => Or.elim hs_ (fun hs_ => hs_.2.1) (fun hs_ => hs_.2.1)) (fun hn_ => (Kd.freshB (g := gb166) (o := .cells #[.slice A0_0 l0_0.length c0_0, .slice A0_1 l0_1.length c0_1] 26 (0, 0)) (kU BK166.out) k_ hn_)), Or.elim hk_ (fun hs_ => Or.elim hs_ (fun hs_ => hs_.2.2.1) (fun hs_ => hs_.2.2.1)) (fun hn_ => (Kd.freshB (g := gb167) (o := .cells #[.slice A1_0 l1_0.length c1_0, .slice A1_1 l1_1.length c1_1] 26 (0, 0)) (kU BK167.out) k_ hn_)), Or.elim hk_ (fun hs_ => Or.elim hs_ (fun hs_ => hs_.2.2.2.1) (fun hs_ => hs_.2.2.2.1)) (fun hn_ => (Kd.freshB (g := gb168) (o := .cells #[.slice none 0 0, .slice none 0 0] 26 (0, 0)) (kU BK168.out) k_ hn_)), Or.elim hk_ (fun hs_ => Or.elim hs_ (fun hs_ => hs_.2.2.2.2.1) (fun hs_ => hs_.2.2.2.2.1)) (fun hn_ => (Kd.freshB (g := gb169) (o := .cells #[.slice none 0 0, .slice none 0 0] 26 (0, 0)) (kU BK169.out) k_ hn_)), Or.elim hk_ (fun hs_ => Or.elim hs_ (fun hs_ => hs_.2.2.2.2.2) (fun hs_ => hs_.2.2.2.2.2)) (fun hn_ => (Kd.freshB (g := gb185) (o := .cells #[.slice none 0 0, .slice none 0 0] 26 (0, 0)) (kU BK185.out) k_ hn_))⟩)) (below_size (bS5 HB.out GE166.out GE167.out GE168.out GE169.out GE185.out)))
                replace BK166 := Aside0.mk (kB BK166.out hb)
                replace BK167 := Aside0.mk (kB BK167.out hb)
                replace BK168 := Aside0.mk (kB BK168.out hb)
                replace BK169 := Aside0.mk (kB BK169.out hb)
                replace BK185 := Aside0.mk (kB BK185.out hb)
                replace HB := Aside0.mk (below_step (bS5 HB.out GE166.out GE167.out GE168.out GE169.out GE185.out) hb)
                (try clear hb)
                (try clear hb2)
                (try clear hk)
                (try clear hi)
                (try clear ho0)
                (try clear ho1)
                refine hK.out _ _ ⟨(blk_cell BK166.out 0).trans rfl, (blk_cell BK166.out 1).trans rfl, (blk_cell BK167.out 0).trans rfl, (blk_cell BK167.out 1).trans rfl⟩ (fun hHeld => ?_)
                clear hK K
                refine norm_ (a' := ?_) ?_ ?_
                rotate_left
                ·
                 show Act.put _ (some 21) _ = _
                 simp only [Act.put, List.setIfInBounds_toArray, List.set_cons_zero, List.set_cons_succ, i64_w, i32_w]
                 rfl
                exact norm_ (by first | (simp only [putAll, Act.put, List.setIfInBounds_toArray, List.set_cons_zero, List.set_cons_succ]; done) | (simp only [putAll, Act.put, List.setIfInBounds_toArray, List.set_cons_zero, List.set_cons_succ]; rfl)) (hJ1_5 (v173, v176, gb185) _ ⟨hHeld, (VU HO174.out), (VU HO177.out), (VU HO_167000.out), (VU HO_167001.out), (VU HO_168000.out), (VU HO_168001.out), (kU BK166.out), (kU BK167.out), (kU BK168.out), (kU BK169.out), (kU BK185.out), GW185.out, GE185.out, NB166_185.out, NB185_166.out, NB167_185.out, NB185_167.out, NB168_185.out, NB185_168.out, NB169_185.out, NB185_169.out, (bS5 HB.out GE166.out GE167.out GE168.out GE169.out GE185.out)⟩)
               ·
                skip
                refine box_step ?hg (N := 7) ?hd (cs := #[.slice none 0 0, .slice none 0 0]) (t := 26) ?hr ?_; (case hd => rfl); (case hg => rfl); (case hr => first | (go_simp; done) | (go_simp; rfl))
                intro gb184 hg w54 hbox hb
                replace HO_167000 := Aside0.mk (Kd.V_below (Kd.V_elderB (VU HO_167000.out) gb184 (Nat.le_of_eq hg.symm)) hb)
                replace HO_167001 := Aside0.mk (Kd.V_below (Kd.V_elderB (VU HO_167001.out) gb184 (Nat.le_of_eq hg.symm)) hb)
                replace HO_168000 := Aside0.mk (Kd.V_below (Kd.V_elderB (VU HO_168000.out) gb184 (Nat.le_of_eq hg.symm)) hb)
                replace HO_168001 := Aside0.mk (Kd.V_below (Kd.V_elderB (VU HO_168001.out) gb184 (Nat.le_of_eq hg.symm)) hb)
                have BK184 := Aside0.mk (hbox)
                have GW184 := Aside0.mk ((by rw [hg]; exact (below_size (bS5 HB.out GE166.out GE167.out GE168.out GE169.out GE185.out)) : w.heap.size ≤ gb184))
                have GE184 := Aside0.mk ((by rw [hg]; exact (below_size (bS5 HB.out GE166.out GE167.out GE168.out GE169.out GE185.out)) : w.heap.size ≤ gb184))
                replace HB := Aside0.mk (below_step (bS5 HB.out GE166.out GE167.out GE168.out GE169.out GE185.out) hb)
                have NB166_184 := Aside0.mk (kN BK166.out hg)
                have NB184_166 := Aside0.mk (kM BK166.out hg)
                replace BK166 := Aside0.mk (kB BK166.out hb)
                have NB167_184 := Aside0.mk (kN BK167.out hg)
                have NB184_167 := Aside0.mk (kM BK167.out hg)
                replace BK167 := Aside0.mk (kB BK167.out hb)
                have NB168_184 := Aside0.mk (kN BK168.out hg)
                have NB184_168 := Aside0.mk (kM BK168.out hg)
                replace BK168 := Aside0.mk (kB BK168.out hb)
                have NB169_184 := Aside0.mk (kN BK169.out hg)
                have NB184_169 := Aside0.mk (kM BK169.out hg)
                replace BK169 := Aside0.mk (kB BK169.out hb)
                have NB185_184 := Aside0.mk (kN BK185.out hg)
                have NB184_185 := Aside0.mk (kM BK185.out hg)
                replace BK185 := Aside0.mk (kB BK185.out hb)
                clear hb hbox hg
                refine hK.out _ _ ⟨(blk_cell BK166.out 0).trans rfl, (blk_cell BK166.out 1).trans rfl, (blk_cell BK167.out 0).trans rfl, (blk_cell BK167.out 1).trans rfl⟩ (fun hHeld => ?_)
                clear hK K
                refine norm_ (a' := ?_) ?_ ?_
                rotate_left
                ·
                 show Act.put _ (some 7) _ = _
                 simp only [Act.put, List.setIfInBounds_toArray, List.set_cons_zero, List.set_cons_succ, i64_w, i32_w]
                 rfl
                exact norm_ (by first | (simp only [putAll, Act.put, List.setIfInBounds_toArray, List.set_cons_zero, List.set_cons_succ]; done) | (simp only [putAll, Act.put, List.setIfInBounds_toArray, List.set_cons_zero, List.set_cons_succ]; rfl)) (hJ4_5 (gb184, gb185) _ ⟨hHeld, (by refine VU ?_; exact Kd.V_mono HO_167000.out (fun _ hk => ⟨hk.1.1, ⟨hk.1.2.1, ⟨hk.1.2.2.1, ⟨hk.1.2.2.2.1, ⟨hk.1.2.2.2.2.1, ⟨hk.2, hk.1.2.2.2.2.2⟩⟩⟩⟩⟩⟩)), (by refine VU ?_; exact Kd.V_mono HO_167001.out (fun _ hk => ⟨hk.1.1, ⟨hk.1.2.1, ⟨hk.1.2.2.1, ⟨hk.1.2.2.2.1, ⟨hk.1.2.2.2.2.1, ⟨hk.2, hk.1.2.2.2.2.2⟩⟩⟩⟩⟩⟩)), (by refine VU ?_; exact Kd.V_mono HO_168000.out (fun _ hk => ⟨hk.1.1, ⟨hk.1.2.1, ⟨hk.1.2.2.1, ⟨hk.1.2.2.2.1, ⟨hk.1.2.2.2.2.1, ⟨hk.2, hk.1.2.2.2.2.2⟩⟩⟩⟩⟩⟩)), (by refine VU ?_; exact Kd.V_mono HO_168001.out (fun _ hk => ⟨hk.1.1, ⟨hk.1.2.1, ⟨hk.1.2.2.1, ⟨hk.1.2.2.2.1, ⟨hk.1.2.2.2.2.1, ⟨hk.2, hk.1.2.2.2.2.2⟩⟩⟩⟩⟩⟩)), (kU BK166.out), (kU BK167.out), (kU BK168.out), (kU BK169.out), (kU BK184.out), (kU BK185.out), GW184.out, GE184.out, NB166_184.out, NB184_166.out, NB167_184.out, NB184_167.out, NB168_184.out, NB184_168.out, NB169_184.out, NB184_169.out, NB185_184.out, NB184_185.out, GW185.out, GE185.out, NB166_185.out, NB185_166.out, NB167_185.out, NB185_167.out, NB168_185.out, NB185_168.out, NB169_185.out, NB185_169.out, (bS6 HB.out GE166.out GE167.out GE168.out GE169.out GE185.out GE184.out)⟩)
             ·
              skip
              rintro gb184 w53 ⟨hS_, h0_, h1_, h2_, h3_, h4_, h5_, h6_, h7_, h8_, h9_, h10_, h11_, h12_, h13_, h14_, h15_, h16_, h17_, h18_, h19_⟩
              have n0_ : Aside0 (Kd.V (Kd.int .i64) 3 w53 w.heap.size (fun k_ => ((P0_0_ k_ ∨ P0_1_ k_ ∨ P1_0_ k_ ∨ P1_1_ k_) ∨ w.heap.size ≤ k_) ∧ k_ ≠ gb166 ∧ k_ ≠ gb167 ∧ k_ ≠ gb168 ∧ k_ ≠ gb169 ∧ k_ ≠ gb184) (.slice A0_0 l0_0.length c0_0) l0_0) := ⟨h0_⟩
              have n1_ : Aside0 (Kd.V (Kd.int .i64) 3 w53 w.heap.size (fun k_ => ((P0_0_ k_ ∨ P0_1_ k_ ∨ P1_0_ k_ ∨ P1_1_ k_) ∨ w.heap.size ≤ k_) ∧ k_ ≠ gb166 ∧ k_ ≠ gb167 ∧ k_ ≠ gb168 ∧ k_ ≠ gb169 ∧ k_ ≠ gb184) (.slice A0_1 l0_1.length c0_1) l0_1) := ⟨h1_⟩
              have n2_ : Aside0 (Kd.V (Kd.int .i64) 3 w53 w.heap.size (fun k_ => ((P0_0_ k_ ∨ P0_1_ k_ ∨ P1_0_ k_ ∨ P1_1_ k_) ∨ w.heap.size ≤ k_) ∧ k_ ≠ gb166 ∧ k_ ≠ gb167 ∧ k_ ≠ gb168 ∧ k_ ≠ gb169 ∧ k_ ≠ gb184) (.slice A1_0 l1_0.length c1_0) l1_0) := ⟨h2_⟩
              have n3_ : Aside0 (Kd.V (Kd.int .i64) 3 w53 w.heap.size (fun k_ => ((P0_0_ k_ ∨ P0_1_ k_ ∨ P1_0_ k_ ∨ P1_1_ k_) ∨ w.heap.size ≤ k_) ∧ k_ ≠ gb166 ∧ k_ ≠ gb167 ∧ k_ ≠ gb168 ∧ k_ ≠ gb169 ∧ k_ ≠ gb184) (.slice A1_1 l1_1.length c1_1) l1_1) := ⟨h3_⟩
              have n4_ : Aside0 (w53.heap[gb166]? = some (.cells #[.slice A0_0 l0_0.length c0_0, .slice A0_1 l0_1.length c0_1] 26 (0, 0))) := ⟨h4_⟩
              have n5_ : Aside0 (w53.heap[gb167]? = some (.cells #[.slice A1_0 l1_0.length c1_0, .slice A1_1 l1_1.length c1_1] 26 (0, 0))) := ⟨h5_⟩
              have n6_ : Aside0 (w53.heap[gb168]? = some (.cells #[.slice none 0 0, .slice none 0 0] 26 (0, 0))) := ⟨h6_⟩
              have n7_ : Aside0 (w53.heap[gb169]? = some (.cells #[.slice none 0 0, .slice none 0 0] 26 (0, 0))) := ⟨h7_⟩
              have n8_ : Aside0 (w53.heap[gb184]? = some (.cells #[.slice none 0 0, .slice none 0 0] 26 (0, 0))) := ⟨h8_⟩
              have n9_ : Aside0 (w.heap.size ≤ gb184) := ⟨h9_⟩
              have n10_ : Aside0 (w.heap.size ≤ gb184) := ⟨h10_⟩
              have n11_ : Aside0 (gb166 ≠ gb184) := ⟨h11_⟩
              have n12_ : Aside0 (gb184 ≠ gb166) := ⟨h12_⟩
              have n13_ : Aside0 (gb167 ≠ gb184) := ⟨h13_⟩
              have n14_ : Aside0 (gb184 ≠ gb167) := ⟨h14_⟩
              have n15_ : Aside0 (gb168 ≠ gb184) := ⟨h15_⟩
              have n16_ : Aside0 (gb184 ≠ gb168) := ⟨h16_⟩
              have n17_ : Aside0 (gb169 ≠ gb184) := ⟨h17_⟩
              have n18_ : Aside0 (gb184 ≠ gb169) := ⟨h18_⟩
              have n19_ : Aside0 (Below w.heap.size w w53) := ⟨h19_⟩
              clear HO_167000 HO_167001 HO_168000 HO_168001 BK166 BK167 BK168 BK169 HB
              clear h0_ h1_ h2_ h3_ h4_ h5_ h6_ h7_ h8_ h9_ h10_ h11_ h12_ h13_ h14_ h15_ h16_ h17_ h18_ h19_
              have HO_167000 := n0_
              have HO_167001 := n1_
              have HO_168000 := n2_
              have HO_168001 := n3_
              have BK166 := n4_
              have BK167 := n5_
              have BK168 := n6_
              have BK169 := n7_
              have BK184 := n8_
              have GW184 := n9_
              have GE184 := n10_
              have NB166_184 := n11_
              have NB184_166 := n12_
              have NB167_184 := n13_
              have NB184_167 := n14_
              have NB168_184 := n15_
              have NB184_168 := n16_
              have NB169_184 := n17_
              have NB184_169 := n18_
              have HB := n19_
              clear n0_ n1_ n2_ n3_ n4_ n5_ n6_ n7_ n8_ n9_ n10_ n11_ n12_ n13_ n14_ n15_ n16_ n17_ n18_ n19_
              have hHeld : w53.cell? ⟨gb166, 0, none⟩ = some (.slice A0_0 l0_0.length c0_0) ∧ w53.cell? ⟨gb166, 1, none⟩ = some (.slice A0_1 l0_1.length c0_1) ∧ w53.cell? ⟨gb167, 0, none⟩ = some (.slice A1_0 l1_0.length c1_0) ∧ w53.cell? ⟨gb167, 1, none⟩ = some (.slice A1_1 l1_1.length c1_1) := hS_
              refine norm_ (a' := ?_) ?_ ?_
              rotate_left
              ·
               simp only [putAll, Act.put, List.setIfInBounds_toArray, List.set_cons_zero, List.set_cons_succ]
               rfl
              refine two_ (i := 1) (j := 5) (Ni := some 21) (Nj := some 8) #[true, true, true, false, true, false, false, false] #[true, false, true, false, true, true, false, false] rfl rfl rfl rfl (two_of HT_.out (by kernel_rfl)) (by decide) (by decide) (fun K hK => ?_) (fun K hK => ?_)
              ·
               skip
               refine goes_ Try.func100 (by kernel_rfl) rfl #[.agg #[.slice A0_0 l0_0.length c0_0, .slice A0_1 l0_1.length c0_1]] (by rfl) rfl rfl lU ?_
               with_reducible refine (spec_l5Vector.calls (fun k_ => (((P0_0_ k_ ∨ P0_1_ k_ ∨ P1_0_ k_ ∨ P1_1_ k_) ∨ w.heap.size ≤ k_) ∧ (k_ ≠ gb166 ∧ (k_ ≠ gb167 ∧ (k_ ≠ gb168 ∧ (k_ ≠ gb169 ∧ k_ ≠ gb184)))))) _ _ l0_0 (fun k_ => (((P0_0_ k_ ∨ P0_1_ k_ ∨ P1_0_ k_ ∨ P1_1_ k_) ∨ w.heap.size ≤ k_) ∧ (k_ ≠ gb166 ∧ (k_ ≠ gb167 ∧ (k_ ≠ gb168 ∧ (k_ ≠ gb169 ∧ k_ ≠ gb184)))))) _ _ l0_1 t172 t175 _ ?side1 ?side2 A37.out).mono ?_
               (case side1 => exact HO_167000.out)
               (case side2 => exact HO_167001.out)
               rintro e w54 ⟨v173, v176, rfl, ho0, ho1, hb⟩
               refine ⟨_, rfl, ?_⟩
               replace HO_167000 := Aside0.mk (Kd.V_below (VU HO_167000.out) hb)
               replace HO_167001 := Aside0.mk (Kd.V_below (VU HO_167001.out) hb)
               replace HO_168000 := Aside0.mk (Kd.V_below (VU HO_168000.out) hb)
               replace HO_168001 := Aside0.mk (Kd.V_below (VU HO_168001.out) hb)
               have HO174 := Aside0.mk (Kd.V_lower (Kd.V_mono (ok' := fun k_ => ((P0_0_ k_ ∨ P0_1_ k_ ∨ P1_0_ k_ ∨ P1_1_ k_) ∨ w.heap.size ≤ k_) ∧ k_ ≠ gb166 ∧ k_ ≠ gb167 ∧ k_ ≠ gb168 ∧ k_ ≠ gb169 ∧ k_ ≠ gb184) ho0 (fun k_ hk_ => ⟨Or.elim hk_ (fun hs_ => Or.elim hs_ (fun hs_ => hs_.1) (fun hs_ => hs_.1)) (fun hn_ => (.inr (Nat.le_trans (below_size (bS5 HB.out GE166.out GE167.out GE168.out GE169.out GE184.out)) hn_))), Or.elim hk_ (fun hs_ => Or.elim hs_ (fun hs_ => hs_.2.1) (fun hs_ => hs_.2.1)) (fun hn_ => (Kd.freshB (g := gb166) (o := .cells #[.slice A0_0 l0_0.length c0_0, .slice A0_1 l0_1.length c0_1] 26 (0, 0)) (kU BK166.out) k_ hn_)), Or.elim hk_ (fun hs_ => Or.elim hs_ (fun hs_ => hs_.2.2.1) (fun hs_ => hs_.2.2.1)) (fun hn_ => (Kd.freshB (g := gb167) (o := .cells #[.slice A1_0 l1_0.length c1_0, .slice A1_1 l1_1.length c1_1] 26 (0, 0)) (kU BK167.out) k_ hn_)), Or.elim hk_ (fun hs_ => Or.elim hs_ (fun hs_ => hs_.2.2.2.1) (fun hs_ => hs_.2.2.2.1)) (fun hn_ => (Kd.freshB (g := gb168) (o := .cells #[.slice none 0 0, .slice none 0 0] 26 (0, 0)) (kU BK168.out) k_ hn_)), Or.elim hk_ (fun hs_ => Or.elim hs_ (fun hs_ => hs_.2.2.2.2.1) (fun hs_ => hs_.2.2.2.2.1)) (fun hn_ => (Kd.freshB (g := gb169) (o := .cells #[.slice none 0 0, .slice none 0 0] 26 (0, 0)) (kU BK169.out) k_ hn_)), Or.elim hk_ (fun hs_ => Or.elim hs_ (fun hs_ => hs_.2.2.2.2.2) (fun hs_ => hs_.2.2.2.2.2)) (fun hn_ => (Kd.freshB (g := gb184) (o := .cells #[.slice none 0 0, .slice none 0 0] 26 (0, 0)) (kU BK184.out) k_ hn_))⟩)) (below_size (bS5 HB.out GE166.out GE167.out GE168.out GE169.out GE184.out)))
               have HO177 := Aside0.mk (Kd.V_lower (Kd.V_mono (ok' := fun k_ => ((P0_0_ k_ ∨ P0_1_ k_ ∨ P1_0_ k_ ∨ P1_1_ k_) ∨ w.heap.size ≤ k_) ∧ k_ ≠ gb166 ∧ k_ ≠ gb167 ∧ k_ ≠ gb168 ∧ k_ ≠ gb169 ∧ k_ ≠ gb184) ho1 (fun k_ hk_ => ⟨Or.elim hk_ (fun hs_ => Or.elim hs_ (fun hs_ => hs_.1) (fun hs_ => hs_.1)) (fun hn_ => (.inr (Nat.le_trans (below_size (bS5 HB.out GE166.out GE167.out GE168.out GE169.out GE184.out)) hn_))), Or.elim hk_ (fun hs_ => Or.elim hs_ (fun hs_ => hs_.2.1) (fun hs_ => hs_.2.1)) (fun hn_ => (Kd.freshB (g := gb166) (o := .cells #[.slice A0_0 l0_0.length c0_0, .slice A0_1 l0_1.length c0_1] 26 (0, 0)) (kU BK166.out) k_ hn_)), Or.elim hk_ (fun hs_ => Or.elim hs_ (fun hs_ => hs_.2.2.1) (fun hs_ => hs_.2.2.1)) (fun hn_ => (Kd.freshB (g := gb167) (o := .cells #[.slice A1_0 l1_0.length c1_0, .slice A1_1 l1_1.length c1_1] 26 (0, 0)) (kU BK167.out) k_ hn_)), Or.elim hk_ (fun hs_ => Or.elim hs_ (fun hs_ => hs_.2.2.2.1) (fun hs_ => hs_.2.2.2.1)) (fun hn_ => (Kd.freshB (g := gb168) (o := .cells #[.slice none 0 0, .slice none 0 0] 26 (0, 0)) (kU BK168.out) k_ hn_)), Or.elim hk_ (fun hs_ => Or.elim hs_ (fun hs_ => hs_.2.2.2.2.1) (fun hs_ => hs_.2.2.2.2.1)) (fun hn_ => (Kd.freshB (g := gb169) (o := .cells #[.slice none 0 0, .slice none 0 0] 26 (0, 0)) (kU BK169.out) k_ hn_)), Or.elim hk_ (fun hs_ => Or.elim hs_ (fun hs_ => hs_.2.2.2.2.2) (fun hs_ => hs_.2.2.2.2.2)) (fun hn_ => (Kd.freshB (g := gb184) (o := .cells #[.slice none 0 0, .slice none 0 0] 26 (0, 0)) (kU BK184.out) k_ hn_))⟩)) (below_size (bS5 HB.out GE166.out GE167.out GE168.out GE169.out GE184.out)))
               replace BK166 := Aside0.mk (kB BK166.out hb)
               replace BK167 := Aside0.mk (kB BK167.out hb)
               replace BK168 := Aside0.mk (kB BK168.out hb)
               replace BK169 := Aside0.mk (kB BK169.out hb)
               replace BK184 := Aside0.mk (kB BK184.out hb)
               replace HB := Aside0.mk (below_step (bS5 HB.out GE166.out GE167.out GE168.out GE169.out GE184.out) hb)
               (try clear hb)
               (try clear hb2)
               (try clear hk)
               (try clear hi)
               (try clear ho0)
               (try clear ho1)
               refine hK.out _ _ ⟨(blk_cell BK166.out 0).trans rfl, (blk_cell BK166.out 1).trans rfl, (blk_cell BK167.out 0).trans rfl, (blk_cell BK167.out 1).trans rfl⟩ (fun hHeld => ?_)
               clear hK K
               refine norm_ (a' := ?_) ?_ ?_
               rotate_left
               ·
                show Act.put _ (some 21) _ = _
                simp only [Act.put, List.setIfInBounds_toArray, List.set_cons_zero, List.set_cons_succ, i64_w, i32_w]
                rfl
               exact norm_ (by first | (simp only [putAll, Act.put, List.setIfInBounds_toArray, List.set_cons_zero, List.set_cons_succ]; done) | (simp only [putAll, Act.put, List.setIfInBounds_toArray, List.set_cons_zero, List.set_cons_succ]; rfl)) (hJ1_4 (v173, v176, gb184) _ ⟨hHeld, (VU HO174.out), (VU HO177.out), (VU HO_167000.out), (VU HO_167001.out), (VU HO_168000.out), (VU HO_168001.out), (kU BK166.out), (kU BK167.out), (kU BK168.out), (kU BK169.out), (kU BK184.out), GW184.out, GE184.out, NB166_184.out, NB184_166.out, NB167_184.out, NB184_167.out, NB168_184.out, NB184_168.out, NB169_184.out, NB184_169.out, (bS5 HB.out GE166.out GE167.out GE168.out GE169.out GE184.out)⟩)
              ·
               skip
               refine box_step ?hg (N := 8) ?hd (cs := #[.slice none 0 0, .slice none 0 0]) (t := 26) ?hr ?_; (case hd => rfl); (case hg => rfl); (case hr => first | (go_simp; done) | (go_simp; rfl))
               intro gb185 hg w54 hbox hb
               replace HO_167000 := Aside0.mk (Kd.V_below (Kd.V_elderB (VU HO_167000.out) gb185 (Nat.le_of_eq hg.symm)) hb)
               replace HO_167001 := Aside0.mk (Kd.V_below (Kd.V_elderB (VU HO_167001.out) gb185 (Nat.le_of_eq hg.symm)) hb)
               replace HO_168000 := Aside0.mk (Kd.V_below (Kd.V_elderB (VU HO_168000.out) gb185 (Nat.le_of_eq hg.symm)) hb)
               replace HO_168001 := Aside0.mk (Kd.V_below (Kd.V_elderB (VU HO_168001.out) gb185 (Nat.le_of_eq hg.symm)) hb)
               have BK185 := Aside0.mk (hbox)
               have GW185 := Aside0.mk ((by rw [hg]; exact (below_size (bS5 HB.out GE166.out GE167.out GE168.out GE169.out GE184.out)) : w.heap.size ≤ gb185))
               have GE185 := Aside0.mk ((by rw [hg]; exact (below_size (bS5 HB.out GE166.out GE167.out GE168.out GE169.out GE184.out)) : w.heap.size ≤ gb185))
               replace HB := Aside0.mk (below_step (bS5 HB.out GE166.out GE167.out GE168.out GE169.out GE184.out) hb)
               have NB166_185 := Aside0.mk (kN BK166.out hg)
               have NB185_166 := Aside0.mk (kM BK166.out hg)
               replace BK166 := Aside0.mk (kB BK166.out hb)
               have NB167_185 := Aside0.mk (kN BK167.out hg)
               have NB185_167 := Aside0.mk (kM BK167.out hg)
               replace BK167 := Aside0.mk (kB BK167.out hb)
               have NB168_185 := Aside0.mk (kN BK168.out hg)
               have NB185_168 := Aside0.mk (kM BK168.out hg)
               replace BK168 := Aside0.mk (kB BK168.out hb)
               have NB169_185 := Aside0.mk (kN BK169.out hg)
               have NB185_169 := Aside0.mk (kM BK169.out hg)
               replace BK169 := Aside0.mk (kB BK169.out hb)
               have NB184_185 := Aside0.mk (kN BK184.out hg)
               have NB185_184 := Aside0.mk (kM BK184.out hg)
               replace BK184 := Aside0.mk (kB BK184.out hb)
               clear hb hbox hg
               refine hK.out _ _ ⟨(blk_cell BK166.out 0).trans rfl, (blk_cell BK166.out 1).trans rfl, (blk_cell BK167.out 0).trans rfl, (blk_cell BK167.out 1).trans rfl⟩ (fun hHeld => ?_)
               clear hK K
               refine norm_ (a' := ?_) ?_ ?_
               rotate_left
               ·
                show Act.put _ (some 8) _ = _
                simp only [Act.put, List.setIfInBounds_toArray, List.set_cons_zero, List.set_cons_succ, i64_w, i32_w]
                rfl
               exact norm_ (by first | (simp only [putAll, Act.put, List.setIfInBounds_toArray, List.set_cons_zero, List.set_cons_succ]; done) | (simp only [putAll, Act.put, List.setIfInBounds_toArray, List.set_cons_zero, List.set_cons_succ]; rfl)) (hJ4_5 (gb184, gb185) _ ⟨hHeld, (by refine VU ?_; exact Kd.V_mono HO_167000.out (fun _ hk => ⟨hk.1.1, ⟨hk.1.2.1, ⟨hk.1.2.2.1, ⟨hk.1.2.2.2.1, ⟨hk.1.2.2.2.2.1, ⟨hk.1.2.2.2.2.2, hk.2⟩⟩⟩⟩⟩⟩)), (by refine VU ?_; exact Kd.V_mono HO_167001.out (fun _ hk => ⟨hk.1.1, ⟨hk.1.2.1, ⟨hk.1.2.2.1, ⟨hk.1.2.2.2.1, ⟨hk.1.2.2.2.2.1, ⟨hk.1.2.2.2.2.2, hk.2⟩⟩⟩⟩⟩⟩)), (by refine VU ?_; exact Kd.V_mono HO_168000.out (fun _ hk => ⟨hk.1.1, ⟨hk.1.2.1, ⟨hk.1.2.2.1, ⟨hk.1.2.2.2.1, ⟨hk.1.2.2.2.2.1, ⟨hk.1.2.2.2.2.2, hk.2⟩⟩⟩⟩⟩⟩)), (by refine VU ?_; exact Kd.V_mono HO_168001.out (fun _ hk => ⟨hk.1.1, ⟨hk.1.2.1, ⟨hk.1.2.2.1, ⟨hk.1.2.2.2.1, ⟨hk.1.2.2.2.2.1, ⟨hk.1.2.2.2.2.2, hk.2⟩⟩⟩⟩⟩⟩)), (kU BK166.out), (kU BK167.out), (kU BK168.out), (kU BK169.out), (kU BK184.out), (kU BK185.out), GW184.out, GE184.out, NB166_184.out, NB184_166.out, NB167_184.out, NB184_167.out, NB168_184.out, NB184_168.out, NB169_184.out, NB184_169.out, NB185_184.out, NB184_185.out, GW185.out, GE185.out, NB166_185.out, NB185_166.out, NB167_185.out, NB185_167.out, NB168_185.out, NB185_168.out, NB169_185.out, NB185_169.out, (bS6 HB.out GE166.out GE167.out GE168.out GE169.out GE184.out GE185.out)⟩)
            ·
             skip
             rintro ⟨v173, v176⟩ w53 ⟨hS_, h0_, h1_, h2_, h3_, h4_, h5_, h6_, h7_, h8_, h9_, h10_⟩
             have n0_ : Aside0 (Kd.V (Kd.int .i64) 3 w53 w.heap.size (fun k_ => ((P0_0_ k_ ∨ P0_1_ k_ ∨ P1_0_ k_ ∨ P1_1_ k_) ∨ w.heap.size ≤ k_) ∧ k_ ≠ gb166 ∧ k_ ≠ gb167 ∧ k_ ≠ gb168 ∧ k_ ≠ gb169) v173 t172) := ⟨h0_⟩
             have n1_ : Aside0 (Kd.V (Kd.int .i64) 3 w53 w.heap.size (fun k_ => ((P0_0_ k_ ∨ P0_1_ k_ ∨ P1_0_ k_ ∨ P1_1_ k_) ∨ w.heap.size ≤ k_) ∧ k_ ≠ gb166 ∧ k_ ≠ gb167 ∧ k_ ≠ gb168 ∧ k_ ≠ gb169) v176 t175) := ⟨h1_⟩
             have n2_ : Aside0 (Kd.V (Kd.int .i64) 3 w53 w.heap.size (fun k_ => ((P0_0_ k_ ∨ P0_1_ k_ ∨ P1_0_ k_ ∨ P1_1_ k_) ∨ w.heap.size ≤ k_) ∧ k_ ≠ gb166 ∧ k_ ≠ gb167 ∧ k_ ≠ gb168 ∧ k_ ≠ gb169) (.slice A0_0 l0_0.length c0_0) l0_0) := ⟨h2_⟩
             have n3_ : Aside0 (Kd.V (Kd.int .i64) 3 w53 w.heap.size (fun k_ => ((P0_0_ k_ ∨ P0_1_ k_ ∨ P1_0_ k_ ∨ P1_1_ k_) ∨ w.heap.size ≤ k_) ∧ k_ ≠ gb166 ∧ k_ ≠ gb167 ∧ k_ ≠ gb168 ∧ k_ ≠ gb169) (.slice A0_1 l0_1.length c0_1) l0_1) := ⟨h3_⟩
             have n4_ : Aside0 (Kd.V (Kd.int .i64) 3 w53 w.heap.size (fun k_ => ((P0_0_ k_ ∨ P0_1_ k_ ∨ P1_0_ k_ ∨ P1_1_ k_) ∨ w.heap.size ≤ k_) ∧ k_ ≠ gb166 ∧ k_ ≠ gb167 ∧ k_ ≠ gb168 ∧ k_ ≠ gb169) (.slice A1_0 l1_0.length c1_0) l1_0) := ⟨h4_⟩
             have n5_ : Aside0 (Kd.V (Kd.int .i64) 3 w53 w.heap.size (fun k_ => ((P0_0_ k_ ∨ P0_1_ k_ ∨ P1_0_ k_ ∨ P1_1_ k_) ∨ w.heap.size ≤ k_) ∧ k_ ≠ gb166 ∧ k_ ≠ gb167 ∧ k_ ≠ gb168 ∧ k_ ≠ gb169) (.slice A1_1 l1_1.length c1_1) l1_1) := ⟨h5_⟩
             have n6_ : Aside0 (w53.heap[gb166]? = some (.cells #[.slice A0_0 l0_0.length c0_0, .slice A0_1 l0_1.length c0_1] 26 (0, 0))) := ⟨h6_⟩
             have n7_ : Aside0 (w53.heap[gb167]? = some (.cells #[.slice A1_0 l1_0.length c1_0, .slice A1_1 l1_1.length c1_1] 26 (0, 0))) := ⟨h7_⟩
             have n8_ : Aside0 (w53.heap[gb168]? = some (.cells #[.slice none 0 0, .slice none 0 0] 26 (0, 0))) := ⟨h8_⟩
             have n9_ : Aside0 (w53.heap[gb169]? = some (.cells #[.slice none 0 0, .slice none 0 0] 26 (0, 0))) := ⟨h9_⟩
             have n10_ : Aside0 (Below w.heap.size w w53) := ⟨h10_⟩
             clear HO_167000 HO_167001 HO_168000 HO_168001 BK166 BK167 BK168 BK169 HB
             clear h0_ h1_ h2_ h3_ h4_ h5_ h6_ h7_ h8_ h9_ h10_
             have HO174 := n0_
             have HO177 := n1_
             have HO_167000 := n2_
             have HO_167001 := n3_
             have HO_168000 := n4_
             have HO_168001 := n5_
             have BK166 := n6_
             have BK167 := n7_
             have BK168 := n8_
             have BK169 := n9_
             have HB := n10_
             clear n0_ n1_ n2_ n3_ n4_ n5_ n6_ n7_ n8_ n9_ n10_
             have hHeld : w53.cell? ⟨gb166, 0, none⟩ = some (.slice A0_0 l0_0.length c0_0) ∧ w53.cell? ⟨gb166, 1, none⟩ = some (.slice A0_1 l0_1.length c0_1) ∧ w53.cell? ⟨gb167, 0, none⟩ = some (.slice A1_0 l1_0.length c1_0) ∧ w53.cell? ⟨gb167, 1, none⟩ = some (.slice A1_1 l1_1.length c1_1) := hS_
             refine norm_ (a' := ?_) ?_ ?_
             rotate_left
             ·
              simp only [putAll, Act.put, List.setIfInBounds_toArray, List.set_cons_zero, List.set_cons_succ]
              rfl
             refine three_ (i := 3) (j := 4) (k := 5) (Ni := some 23) (Nj := some 7) (Nk := some 8) #[true, true, true, true, false, false, false, false] #[true, true, true, false, true, false, false, false] #[true, true, true, false, false, true, false, false] rfl rfl rfl rfl rfl rfl (three_of HT_.out (by kernel_rfl)) (by decide) (by decide) (by decide) (fun K hK => ?_) (fun K hK => ?_) (fun K hK => ?_)
             ·
              skip
              refine goes_ Try.func100 (by kernel_rfl) rfl #[.agg #[.slice A1_0 l1_0.length c1_0, .slice A1_1 l1_1.length c1_1]] (by rfl) rfl rfl lU ?_
              with_reducible refine (spec_l5Vector.calls (fun k_ => (((P0_0_ k_ ∨ P0_1_ k_ ∨ P1_0_ k_ ∨ P1_1_ k_) ∨ w.heap.size ≤ k_) ∧ (k_ ≠ gb166 ∧ (k_ ≠ gb167 ∧ (k_ ≠ gb168 ∧ k_ ≠ gb169))))) _ _ l1_0 (fun k_ => (((P0_0_ k_ ∨ P0_1_ k_ ∨ P1_0_ k_ ∨ P1_1_ k_) ∨ w.heap.size ≤ k_) ∧ (k_ ≠ gb166 ∧ (k_ ≠ gb167 ∧ (k_ ≠ gb168 ∧ k_ ≠ gb169))))) _ _ l1_1 t178 t181 _ ?side1 ?side2 A38.out).mono ?_
              (case side1 => exact HO_168000.out)
              (case side2 => exact HO_168001.out)
              rintro e w54 ⟨v179, v182, rfl, ho0, ho1, hb⟩
              refine ⟨_, rfl, ?_⟩
              replace HO_167000 := Aside0.mk (Kd.V_below (VU HO_167000.out) hb)
              replace HO_167001 := Aside0.mk (Kd.V_below (VU HO_167001.out) hb)
              replace HO_168000 := Aside0.mk (Kd.V_below (VU HO_168000.out) hb)
              replace HO_168001 := Aside0.mk (Kd.V_below (VU HO_168001.out) hb)
              replace HO174 := Aside0.mk (Kd.V_below (VU HO174.out) hb)
              replace HO177 := Aside0.mk (Kd.V_below (VU HO177.out) hb)
              have HO180 := Aside0.mk (Kd.V_lower (Kd.V_mono (ok' := fun k_ => ((P0_0_ k_ ∨ P0_1_ k_ ∨ P1_0_ k_ ∨ P1_1_ k_) ∨ w.heap.size ≤ k_) ∧ k_ ≠ gb166 ∧ k_ ≠ gb167 ∧ k_ ≠ gb168 ∧ k_ ≠ gb169) ho0 (fun k_ hk_ => ⟨Or.elim hk_ (fun hs_ => Or.elim hs_ (fun hs_ => hs_.1) (fun hs_ => hs_.1)) (fun hn_ => (.inr (Nat.le_trans (below_size (bS4 HB.out GE166.out GE167.out GE168.out GE169.out)) hn_))), Or.elim hk_ (fun hs_ => Or.elim hs_ (fun hs_ => hs_.2.1) (fun hs_ => hs_.2.1)) (fun hn_ => (Kd.freshB (g := gb166) (o := .cells #[.slice A0_0 l0_0.length c0_0, .slice A0_1 l0_1.length c0_1] 26 (0, 0)) (kU BK166.out) k_ hn_)), Or.elim hk_ (fun hs_ => Or.elim hs_ (fun hs_ => hs_.2.2.1) (fun hs_ => hs_.2.2.1)) (fun hn_ => (Kd.freshB (g := gb167) (o := .cells #[.slice A1_0 l1_0.length c1_0, .slice A1_1 l1_1.length c1_1] 26 (0, 0)) (kU BK167.out) k_ hn_)), Or.elim hk_ (fun hs_ => Or.elim hs_ (fun hs_ => hs_.2.2.2.1) (fun hs_ => hs_.2.2.2.1)) (fun hn_ => (Kd.freshB (g := gb168) (o := .cells #[.slice none 0 0, .slice none 0 0] 26 (0, 0)) (kU BK168.out) k_ hn_)), Or.elim hk_ (fun hs_ => Or.elim hs_ (fun hs_ => hs_.2.2.2.2) (fun hs_ => hs_.2.2.2.2)) (fun hn_ => (Kd.freshB (g := gb169) (o := .cells #[.slice none 0 0, .slice none 0 0] 26 (0, 0)) (kU BK169.out) k_ hn_))⟩)) (below_size (bS4 HB.out GE166.out GE167.out GE168.out GE169.out)))
              have HO183 := Aside0.mk (Kd.V_lower (Kd.V_mono (ok' := fun k_ => ((P0_0_ k_ ∨ P0_1_ k_ ∨ P1_0_ k_ ∨ P1_1_ k_) ∨ w.heap.size ≤ k_) ∧ k_ ≠ gb166 ∧ k_ ≠ gb167 ∧ k_ ≠ gb168 ∧ k_ ≠ gb169) ho1 (fun k_ hk_ => ⟨Or.elim hk_ (fun hs_ => Or.elim hs_ (fun hs_ => hs_.1) (fun hs_ => hs_.1)) (fun hn_ => (.inr (Nat.le_trans (below_size (bS4 HB.out GE166.out GE167.out GE168.out GE169.out)) hn_))), Or.elim hk_ (fun hs_ => Or.elim hs_ (fun hs_ => hs_.2.1) (fun hs_ => hs_.2.1)) (fun hn_ => (Kd.freshB (g := gb166) (o := .cells #[.slice A0_0 l0_0.length c0_0, .slice A0_1 l0_1.length c0_1] 26 (0, 0)) (kU BK166.out) k_ hn_)), Or.elim hk_ (fun hs_ => Or.elim hs_ (fun hs_ => hs_.2.2.1) (fun hs_ => hs_.2.2.1)) (fun hn_ => (Kd.freshB (g := gb167) (o := .cells #[.slice A1_0 l1_0.length c1_0, .slice A1_1 l1_1.length c1_1] 26 (0, 0)) (kU BK167.out) k_ hn_)), Or.elim hk_ (fun hs_ => Or.elim hs_ (fun hs_ => hs_.2.2.2.1) (fun hs_ => hs_.2.2.2.1)) (fun hn_ => (Kd.freshB (g := gb168) (o := .cells #[.slice none 0 0, .slice none 0 0] 26 (0, 0)) (kU BK168.out) k_ hn_)), Or.elim hk_ (fun hs_ => Or.elim hs_ (fun hs_ => hs_.2.2.2.2) (fun hs_ => hs_.2.2.2.2)) (fun hn_ => (Kd.freshB (g := gb169) (o := .cells #[.slice none 0 0, .slice none 0 0] 26 (0, 0)) (kU BK169.out) k_ hn_))⟩)) (below_size (bS4 HB.out GE166.out GE167.out GE168.out GE169.out)))
              replace BK166 := Aside0.mk (kB BK166.out hb)
              replace BK167 := Aside0.mk (kB BK167.out hb)
              replace BK168 := Aside0.mk (kB BK168.out hb)
              replace BK169 := Aside0.mk (kB BK169.out hb)
              replace HB := Aside0.mk (below_step (bS4 HB.out GE166.out GE167.out GE168.out GE169.out) hb)
              (try clear hb)
              (try clear hb2)
              (try clear hk)
              (try clear hi)
              (try clear ho0)
              (try clear ho1)
              refine hK.out _ _ ⟨(blk_cell BK166.out 0).trans rfl, (blk_cell BK166.out 1).trans rfl, (blk_cell BK167.out 0).trans rfl, (blk_cell BK167.out 1).trans rfl⟩ (fun hHeld => ?_)
              clear hK K
              refine norm_ (a' := ?_) ?_ ?_
              rotate_left
              ·
               show Act.put _ (some 23) _ = _
               simp only [Act.put, List.setIfInBounds_toArray, List.set_cons_zero, List.set_cons_succ, i64_w, i32_w]
               rfl
              exact norm_ (by first | (simp only [putAll, Act.put, List.setIfInBounds_toArray, List.set_cons_zero, List.set_cons_succ]; done) | (simp only [putAll, Act.put, List.setIfInBounds_toArray, List.set_cons_zero, List.set_cons_succ]; rfl)) (hJ1_3 (v173, v176, v179, v182) _ ⟨hHeld, (VU HO174.out), (VU HO177.out), (VU HO180.out), (VU HO183.out), (VU HO_167000.out), (VU HO_167001.out), (VU HO_168000.out), (VU HO_168001.out), (kU BK166.out), (kU BK167.out), (kU BK168.out), (kU BK169.out), (bS4 HB.out GE166.out GE167.out GE168.out GE169.out)⟩)
             ·
              skip
              refine box_step ?hg (N := 7) ?hd (cs := #[.slice none 0 0, .slice none 0 0]) (t := 26) ?hr ?_; (case hd => rfl); (case hg => rfl); (case hr => first | (go_simp; done) | (go_simp; rfl))
              intro gb184 hg w54 hbox hb
              replace HO_167000 := Aside0.mk (Kd.V_below (Kd.V_elderB (VU HO_167000.out) gb184 (Nat.le_of_eq hg.symm)) hb)
              replace HO_167001 := Aside0.mk (Kd.V_below (Kd.V_elderB (VU HO_167001.out) gb184 (Nat.le_of_eq hg.symm)) hb)
              replace HO_168000 := Aside0.mk (Kd.V_below (Kd.V_elderB (VU HO_168000.out) gb184 (Nat.le_of_eq hg.symm)) hb)
              replace HO_168001 := Aside0.mk (Kd.V_below (Kd.V_elderB (VU HO_168001.out) gb184 (Nat.le_of_eq hg.symm)) hb)
              replace HO174 := Aside0.mk (Kd.V_below (Kd.V_elderB (VU HO174.out) gb184 (Nat.le_of_eq hg.symm)) hb)
              replace HO177 := Aside0.mk (Kd.V_below (Kd.V_elderB (VU HO177.out) gb184 (Nat.le_of_eq hg.symm)) hb)
              have BK184 := Aside0.mk (hbox)
              have GW184 := Aside0.mk ((by rw [hg]; exact (below_size (bS4 HB.out GE166.out GE167.out GE168.out GE169.out)) : w.heap.size ≤ gb184))
              have GE184 := Aside0.mk ((by rw [hg]; exact (below_size (bS4 HB.out GE166.out GE167.out GE168.out GE169.out)) : w.heap.size ≤ gb184))
              replace HB := Aside0.mk (below_step (bS4 HB.out GE166.out GE167.out GE168.out GE169.out) hb)
              have NB166_184 := Aside0.mk (kN BK166.out hg)
              have NB184_166 := Aside0.mk (kM BK166.out hg)
              replace BK166 := Aside0.mk (kB BK166.out hb)
              have NB167_184 := Aside0.mk (kN BK167.out hg)
              have NB184_167 := Aside0.mk (kM BK167.out hg)
              replace BK167 := Aside0.mk (kB BK167.out hb)
              have NB168_184 := Aside0.mk (kN BK168.out hg)
              have NB184_168 := Aside0.mk (kM BK168.out hg)
              replace BK168 := Aside0.mk (kB BK168.out hb)
              have NB169_184 := Aside0.mk (kN BK169.out hg)
              have NB184_169 := Aside0.mk (kM BK169.out hg)
              replace BK169 := Aside0.mk (kB BK169.out hb)
              clear hb hbox hg
              refine hK.out _ _ ⟨(blk_cell BK166.out 0).trans rfl, (blk_cell BK166.out 1).trans rfl, (blk_cell BK167.out 0).trans rfl, (blk_cell BK167.out 1).trans rfl⟩ (fun hHeld => ?_)
              clear hK K
              refine norm_ (a' := ?_) ?_ ?_
              rotate_left
              ·
               show Act.put _ (some 7) _ = _
               simp only [Act.put, List.setIfInBounds_toArray, List.set_cons_zero, List.set_cons_succ, i64_w, i32_w]
               rfl
              exact norm_ (by first | (simp only [putAll, Act.put, List.setIfInBounds_toArray, List.set_cons_zero, List.set_cons_succ]; done) | (simp only [putAll, Act.put, List.setIfInBounds_toArray, List.set_cons_zero, List.set_cons_succ]; rfl)) (hJ1_4 (v173, v176, gb184) _ ⟨hHeld, (by refine VU ?_; exact Kd.V_mono HO174.out (fun _ hk => ⟨hk.1.1, ⟨hk.1.2.1, ⟨hk.1.2.2.1, ⟨hk.1.2.2.2.1, ⟨hk.1.2.2.2.2, hk.2⟩⟩⟩⟩⟩)), (by refine VU ?_; exact Kd.V_mono HO177.out (fun _ hk => ⟨hk.1.1, ⟨hk.1.2.1, ⟨hk.1.2.2.1, ⟨hk.1.2.2.2.1, ⟨hk.1.2.2.2.2, hk.2⟩⟩⟩⟩⟩)), (by refine VU ?_; exact Kd.V_mono HO_167000.out (fun _ hk => ⟨hk.1.1, ⟨hk.1.2.1, ⟨hk.1.2.2.1, ⟨hk.1.2.2.2.1, ⟨hk.1.2.2.2.2, hk.2⟩⟩⟩⟩⟩)), (by refine VU ?_; exact Kd.V_mono HO_167001.out (fun _ hk => ⟨hk.1.1, ⟨hk.1.2.1, ⟨hk.1.2.2.1, ⟨hk.1.2.2.2.1, ⟨hk.1.2.2.2.2, hk.2⟩⟩⟩⟩⟩)), (by refine VU ?_; exact Kd.V_mono HO_168000.out (fun _ hk => ⟨hk.1.1, ⟨hk.1.2.1, ⟨hk.1.2.2.1, ⟨hk.1.2.2.2.1, ⟨hk.1.2.2.2.2, hk.2⟩⟩⟩⟩⟩)), (by refine VU ?_; exact Kd.V_mono HO_168001.out (fun _ hk => ⟨hk.1.1, ⟨hk.1.2.1, ⟨hk.1.2.2.1, ⟨hk.1.2.2.2.1, ⟨hk.1.2.2.2.2, hk.2⟩⟩⟩⟩⟩)), (kU BK166.out), (kU BK167.out), (kU BK168.out), (kU BK169.out), (kU BK184.out), GW184.out, GE184.out, NB166_184.out, NB184_166.out, NB167_184.out, NB184_167.out, NB168_184.out, NB184_168.out, NB169_184.out, NB184_169.out, (bS5 HB.out GE166.out GE167.out GE168.out GE169.out GE184.out)⟩)
             ·
              skip
              refine box_step ?hg (N := 8) ?hd (cs := #[.slice none 0 0, .slice none 0 0]) (t := 26) ?hr ?_; (case hd => rfl); (case hg => rfl); (case hr => first | (go_simp; done) | (go_simp; rfl))
              intro gb185 hg w54 hbox hb
              replace HO_167000 := Aside0.mk (Kd.V_below (Kd.V_elderB (VU HO_167000.out) gb185 (Nat.le_of_eq hg.symm)) hb)
              replace HO_167001 := Aside0.mk (Kd.V_below (Kd.V_elderB (VU HO_167001.out) gb185 (Nat.le_of_eq hg.symm)) hb)
              replace HO_168000 := Aside0.mk (Kd.V_below (Kd.V_elderB (VU HO_168000.out) gb185 (Nat.le_of_eq hg.symm)) hb)
              replace HO_168001 := Aside0.mk (Kd.V_below (Kd.V_elderB (VU HO_168001.out) gb185 (Nat.le_of_eq hg.symm)) hb)
              replace HO174 := Aside0.mk (Kd.V_below (Kd.V_elderB (VU HO174.out) gb185 (Nat.le_of_eq hg.symm)) hb)
              replace HO177 := Aside0.mk (Kd.V_below (Kd.V_elderB (VU HO177.out) gb185 (Nat.le_of_eq hg.symm)) hb)
              have BK185 := Aside0.mk (hbox)
              have GW185 := Aside0.mk ((by rw [hg]; exact (below_size (bS4 HB.out GE166.out GE167.out GE168.out GE169.out)) : w.heap.size ≤ gb185))
              have GE185 := Aside0.mk ((by rw [hg]; exact (below_size (bS4 HB.out GE166.out GE167.out GE168.out GE169.out)) : w.heap.size ≤ gb185))
              replace HB := Aside0.mk (below_step (bS4 HB.out GE166.out GE167.out GE168.out GE169.out) hb)
              have NB166_185 := Aside0.mk (kN BK166.out hg)
              have NB185_166 := Aside0.mk (kM BK166.out hg)
              replace BK166 := Aside0.mk (kB BK166.out hb)
              have NB167_185 := Aside0.mk (kN BK167.out hg)
              have NB185_167 := Aside0.mk (kM BK167.out hg)
              replace BK167 := Aside0.mk (kB BK167.out hb)
              have NB168_185 := Aside0.mk (kN BK168.out hg)
              have NB185_168 := Aside0.mk (kM BK168.out hg)
              replace BK168 := Aside0.mk (kB BK168.out hb)
              have NB169_185 := Aside0.mk (kN BK169.out hg)
              have NB185_169 := Aside0.mk (kM BK169.out hg)
              replace BK169 := Aside0.mk (kB BK169.out hb)
              clear hb hbox hg
              refine hK.out _ _ ⟨(blk_cell BK166.out 0).trans rfl, (blk_cell BK166.out 1).trans rfl, (blk_cell BK167.out 0).trans rfl, (blk_cell BK167.out 1).trans rfl⟩ (fun hHeld => ?_)
              clear hK K
              refine norm_ (a' := ?_) ?_ ?_
              rotate_left
              ·
               show Act.put _ (some 8) _ = _
               simp only [Act.put, List.setIfInBounds_toArray, List.set_cons_zero, List.set_cons_succ, i64_w, i32_w]
               rfl
              exact norm_ (by first | (simp only [putAll, Act.put, List.setIfInBounds_toArray, List.set_cons_zero, List.set_cons_succ]; done) | (simp only [putAll, Act.put, List.setIfInBounds_toArray, List.set_cons_zero, List.set_cons_succ]; rfl)) (hJ1_5 (v173, v176, gb185) _ ⟨hHeld, (by refine VU ?_; exact Kd.V_mono HO174.out (fun _ hk => ⟨hk.1.1, ⟨hk.1.2.1, ⟨hk.1.2.2.1, ⟨hk.1.2.2.2.1, ⟨hk.1.2.2.2.2, hk.2⟩⟩⟩⟩⟩)), (by refine VU ?_; exact Kd.V_mono HO177.out (fun _ hk => ⟨hk.1.1, ⟨hk.1.2.1, ⟨hk.1.2.2.1, ⟨hk.1.2.2.2.1, ⟨hk.1.2.2.2.2, hk.2⟩⟩⟩⟩⟩)), (by refine VU ?_; exact Kd.V_mono HO_167000.out (fun _ hk => ⟨hk.1.1, ⟨hk.1.2.1, ⟨hk.1.2.2.1, ⟨hk.1.2.2.2.1, ⟨hk.1.2.2.2.2, hk.2⟩⟩⟩⟩⟩)), (by refine VU ?_; exact Kd.V_mono HO_167001.out (fun _ hk => ⟨hk.1.1, ⟨hk.1.2.1, ⟨hk.1.2.2.1, ⟨hk.1.2.2.2.1, ⟨hk.1.2.2.2.2, hk.2⟩⟩⟩⟩⟩)), (by refine VU ?_; exact Kd.V_mono HO_168000.out (fun _ hk => ⟨hk.1.1, ⟨hk.1.2.1, ⟨hk.1.2.2.1, ⟨hk.1.2.2.2.1, ⟨hk.1.2.2.2.2, hk.2⟩⟩⟩⟩⟩)), (by refine VU ?_; exact Kd.V_mono HO_168001.out (fun _ hk => ⟨hk.1.1, ⟨hk.1.2.1, ⟨hk.1.2.2.1, ⟨hk.1.2.2.2.1, ⟨hk.1.2.2.2.2, hk.2⟩⟩⟩⟩⟩)), (kU BK166.out), (kU BK167.out), (kU BK168.out), (kU BK169.out), (kU BK185.out), GW185.out, GE185.out, NB166_185.out, NB185_166.out, NB167_185.out, NB185_167.out, NB168_185.out, NB185_168.out, NB169_185.out, NB185_169.out, (bS5 HB.out GE166.out GE167.out GE168.out GE169.out GE185.out)⟩)
           ·
            skip
            rintro ⟨gb184, gb185⟩ w54 ⟨hS_, h0_, h1_, h2_, h3_, h4_, h5_, h6_, h7_, h8_, h9_, h10_, h11_, h12_, h13_, h14_, h15_, h16_, h17_, h18_, h19_, h20_, h21_, h22_, h23_, h24_, h25_, h26_, h27_, h28_, h29_, h30_, h31_, h32_⟩
            have n0_ : Aside0 (Kd.V (Kd.int .i64) 3 w54 w.heap.size (fun k_ => ((P0_0_ k_ ∨ P0_1_ k_ ∨ P1_0_ k_ ∨ P1_1_ k_) ∨ w.heap.size ≤ k_) ∧ k_ ≠ gb166 ∧ k_ ≠ gb167 ∧ k_ ≠ gb168 ∧ k_ ≠ gb169 ∧ k_ ≠ gb184 ∧ k_ ≠ gb185) (.slice A0_0 l0_0.length c0_0) l0_0) := ⟨h0_⟩
            have n1_ : Aside0 (Kd.V (Kd.int .i64) 3 w54 w.heap.size (fun k_ => ((P0_0_ k_ ∨ P0_1_ k_ ∨ P1_0_ k_ ∨ P1_1_ k_) ∨ w.heap.size ≤ k_) ∧ k_ ≠ gb166 ∧ k_ ≠ gb167 ∧ k_ ≠ gb168 ∧ k_ ≠ gb169 ∧ k_ ≠ gb184 ∧ k_ ≠ gb185) (.slice A0_1 l0_1.length c0_1) l0_1) := ⟨h1_⟩
            have n2_ : Aside0 (Kd.V (Kd.int .i64) 3 w54 w.heap.size (fun k_ => ((P0_0_ k_ ∨ P0_1_ k_ ∨ P1_0_ k_ ∨ P1_1_ k_) ∨ w.heap.size ≤ k_) ∧ k_ ≠ gb166 ∧ k_ ≠ gb167 ∧ k_ ≠ gb168 ∧ k_ ≠ gb169 ∧ k_ ≠ gb184 ∧ k_ ≠ gb185) (.slice A1_0 l1_0.length c1_0) l1_0) := ⟨h2_⟩
            have n3_ : Aside0 (Kd.V (Kd.int .i64) 3 w54 w.heap.size (fun k_ => ((P0_0_ k_ ∨ P0_1_ k_ ∨ P1_0_ k_ ∨ P1_1_ k_) ∨ w.heap.size ≤ k_) ∧ k_ ≠ gb166 ∧ k_ ≠ gb167 ∧ k_ ≠ gb168 ∧ k_ ≠ gb169 ∧ k_ ≠ gb184 ∧ k_ ≠ gb185) (.slice A1_1 l1_1.length c1_1) l1_1) := ⟨h3_⟩
            have n4_ : Aside0 (w54.heap[gb166]? = some (.cells #[.slice A0_0 l0_0.length c0_0, .slice A0_1 l0_1.length c0_1] 26 (0, 0))) := ⟨h4_⟩
            have n5_ : Aside0 (w54.heap[gb167]? = some (.cells #[.slice A1_0 l1_0.length c1_0, .slice A1_1 l1_1.length c1_1] 26 (0, 0))) := ⟨h5_⟩
            have n6_ : Aside0 (w54.heap[gb168]? = some (.cells #[.slice none 0 0, .slice none 0 0] 26 (0, 0))) := ⟨h6_⟩
            have n7_ : Aside0 (w54.heap[gb169]? = some (.cells #[.slice none 0 0, .slice none 0 0] 26 (0, 0))) := ⟨h7_⟩
            have n8_ : Aside0 (w54.heap[gb184]? = some (.cells #[.slice none 0 0, .slice none 0 0] 26 (0, 0))) := ⟨h8_⟩
            have n9_ : Aside0 (w54.heap[gb185]? = some (.cells #[.slice none 0 0, .slice none 0 0] 26 (0, 0))) := ⟨h9_⟩
            have n10_ : Aside0 (w.heap.size ≤ gb184) := ⟨h10_⟩
            have n11_ : Aside0 (w.heap.size ≤ gb184) := ⟨h11_⟩
            have n12_ : Aside0 (gb166 ≠ gb184) := ⟨h12_⟩
            have n13_ : Aside0 (gb184 ≠ gb166) := ⟨h13_⟩
            have n14_ : Aside0 (gb167 ≠ gb184) := ⟨h14_⟩
            have n15_ : Aside0 (gb184 ≠ gb167) := ⟨h15_⟩
            have n16_ : Aside0 (gb168 ≠ gb184) := ⟨h16_⟩
            have n17_ : Aside0 (gb184 ≠ gb168) := ⟨h17_⟩
            have n18_ : Aside0 (gb169 ≠ gb184) := ⟨h18_⟩
            have n19_ : Aside0 (gb184 ≠ gb169) := ⟨h19_⟩
            have n20_ : Aside0 (gb185 ≠ gb184) := ⟨h20_⟩
            have n21_ : Aside0 (gb184 ≠ gb185) := ⟨h21_⟩
            have n22_ : Aside0 (w.heap.size ≤ gb185) := ⟨h22_⟩
            have n23_ : Aside0 (w.heap.size ≤ gb185) := ⟨h23_⟩
            have n24_ : Aside0 (gb166 ≠ gb185) := ⟨h24_⟩
            have n25_ : Aside0 (gb185 ≠ gb166) := ⟨h25_⟩
            have n26_ : Aside0 (gb167 ≠ gb185) := ⟨h26_⟩
            have n27_ : Aside0 (gb185 ≠ gb167) := ⟨h27_⟩
            have n28_ : Aside0 (gb168 ≠ gb185) := ⟨h28_⟩
            have n29_ : Aside0 (gb185 ≠ gb168) := ⟨h29_⟩
            have n30_ : Aside0 (gb169 ≠ gb185) := ⟨h30_⟩
            have n31_ : Aside0 (gb185 ≠ gb169) := ⟨h31_⟩
            have n32_ : Aside0 (Below w.heap.size w w54) := ⟨h32_⟩
            clear HO_167000 HO_167001 HO_168000 HO_168001 BK166 BK167 BK168 BK169 HB
            clear h0_ h1_ h2_ h3_ h4_ h5_ h6_ h7_ h8_ h9_ h10_ h11_ h12_ h13_ h14_ h15_ h16_ h17_ h18_ h19_ h20_ h21_ h22_ h23_ h24_ h25_ h26_ h27_ h28_ h29_ h30_ h31_ h32_
            have HO_167000 := n0_
            have HO_167001 := n1_
            have HO_168000 := n2_
            have HO_168001 := n3_
            have BK166 := n4_
            have BK167 := n5_
            have BK168 := n6_
            have BK169 := n7_
            have BK184 := n8_
            have BK185 := n9_
            have GW184 := n10_
            have GE184 := n11_
            have NB166_184 := n12_
            have NB184_166 := n13_
            have NB167_184 := n14_
            have NB184_167 := n15_
            have NB168_184 := n16_
            have NB184_168 := n17_
            have NB169_184 := n18_
            have NB184_169 := n19_
            have NB185_184 := n20_
            have NB184_185 := n21_
            have GW185 := n22_
            have GE185 := n23_
            have NB166_185 := n24_
            have NB185_166 := n25_
            have NB167_185 := n26_
            have NB185_167 := n27_
            have NB168_185 := n28_
            have NB185_168 := n29_
            have NB169_185 := n30_
            have NB185_169 := n31_
            have HB := n32_
            clear n0_ n1_ n2_ n3_ n4_ n5_ n6_ n7_ n8_ n9_ n10_ n11_ n12_ n13_ n14_ n15_ n16_ n17_ n18_ n19_ n20_ n21_ n22_ n23_ n24_ n25_ n26_ n27_ n28_ n29_ n30_ n31_ n32_
            have hHeld : w54.cell? ⟨gb166, 0, none⟩ = some (.slice A0_0 l0_0.length c0_0) ∧ w54.cell? ⟨gb166, 1, none⟩ = some (.slice A0_1 l0_1.length c0_1) ∧ w54.cell? ⟨gb167, 0, none⟩ = some (.slice A1_0 l1_0.length c1_0) ∧ w54.cell? ⟨gb167, 1, none⟩ = some (.slice A1_1 l1_1.length c1_1) := hS_
            refine norm_ (a' := ?_) ?_ ?_
            rotate_left
            ·
             simp only [putAll, Act.put, List.setIfInBounds_toArray, List.set_cons_zero, List.set_cons_succ]
             rfl
            refine one_ (i := 1) (N := some 21) #[true, true, true, false, true, true, false, false] rfl rfl (one_of HT_.out (by kernel_rfl)) (by decide) (fun K hK => ?_)
            refine goes_ Try.func100 (by kernel_rfl) rfl #[.agg #[.slice A0_0 l0_0.length c0_0, .slice A0_1 l0_1.length c0_1]] (by rfl) rfl rfl lU ?_
            with_reducible refine (spec_l5Vector.calls (fun k_ => (((P0_0_ k_ ∨ P0_1_ k_ ∨ P1_0_ k_ ∨ P1_1_ k_) ∨ w.heap.size ≤ k_) ∧ (k_ ≠ gb166 ∧ (k_ ≠ gb167 ∧ (k_ ≠ gb168 ∧ (k_ ≠ gb169 ∧ (k_ ≠ gb184 ∧ k_ ≠ gb185))))))) _ _ l0_0 (fun k_ => (((P0_0_ k_ ∨ P0_1_ k_ ∨ P1_0_ k_ ∨ P1_1_ k_) ∨ w.heap.size ≤ k_) ∧ (k_ ≠ gb166 ∧ (k_ ≠ gb167 ∧ (k_ ≠ gb168 ∧ (k_ ≠ gb169 ∧ (k_ ≠ gb184 ∧ k_ ≠ gb185))))))) _ _ l0_1 t172 t175 _ ?side1 ?side2 A37.out).mono ?_
            (case side1 => exact HO_167000.out)
            (case side2 => exact HO_167001.out)
            rintro e w55 ⟨v173, v176, rfl, ho0, ho1, hb⟩
            refine ⟨_, rfl, ?_⟩
            replace HO_167000 := Aside0.mk (Kd.V_below (VU HO_167000.out) hb)
            replace HO_167001 := Aside0.mk (Kd.V_below (VU HO_167001.out) hb)
            replace HO_168000 := Aside0.mk (Kd.V_below (VU HO_168000.out) hb)
            replace HO_168001 := Aside0.mk (Kd.V_below (VU HO_168001.out) hb)
            have HO174 := Aside0.mk (Kd.V_lower (Kd.V_mono (ok' := fun k_ => ((P0_0_ k_ ∨ P0_1_ k_ ∨ P1_0_ k_ ∨ P1_1_ k_) ∨ w.heap.size ≤ k_) ∧ k_ ≠ gb166 ∧ k_ ≠ gb167 ∧ k_ ≠ gb168 ∧ k_ ≠ gb169 ∧ k_ ≠ gb184 ∧ k_ ≠ gb185) ho0 (fun k_ hk_ => ⟨Or.elim hk_ (fun hs_ => Or.elim hs_ (fun hs_ => hs_.1) (fun hs_ => hs_.1)) (fun hn_ => (.inr (Nat.le_trans (below_size (bS6 HB.out GE166.out GE167.out GE168.out GE169.out GE184.out GE185.out)) hn_))), Or.elim hk_ (fun hs_ => Or.elim hs_ (fun hs_ => hs_.2.1) (fun hs_ => hs_.2.1)) (fun hn_ => (Kd.freshB (g := gb166) (o := .cells #[.slice A0_0 l0_0.length c0_0, .slice A0_1 l0_1.length c0_1] 26 (0, 0)) (kU BK166.out) k_ hn_)), Or.elim hk_ (fun hs_ => Or.elim hs_ (fun hs_ => hs_.2.2.1) (fun hs_ => hs_.2.2.1)) (fun hn_ => (Kd.freshB (g := gb167) (o := .cells #[.slice A1_0 l1_0.length c1_0, .slice A1_1 l1_1.length c1_1] 26 (0, 0)) (kU BK167.out) k_ hn_)), Or.elim hk_ (fun hs_ => Or.elim hs_ (fun hs_ => hs_.2.2.2.1) (fun hs_ => hs_.2.2.2.1)) (fun hn_ => (Kd.freshB (g := gb168) (o := .cells #[.slice none 0 0, .slice none 0 0] 26 (0, 0)) (kU BK168.out) k_ hn_)), Or.elim hk_ (fun hs_ => Or.elim hs_ (fun hs_ => hs_.2.2.2.2.1) (fun hs_ => hs_.2.2.2.2.1)) (fun hn_ => (Kd.freshB (g := gb169) (o := .cells #[.slice none 0 0, .slice none 0 0] 26 (0, 0)) (kU BK169.out) k_ hn_)), Or.elim hk_ (fun hs_ => Or.elim hs_ (fun hs_ => hs_.2.2.2.2.2.1) (fun hs_ => hs_.2.2.2.2.2.1)) (fun hn_ => (Kd.freshB (g := gb184) (o := .cells #[.slice none 0 0, .slice none 0 0] 26 (0, 0)) (kU BK184.out) k_ hn_)), Or.elim hk_ (fun hs_ => Or.elim hs_ (fun hs_ => hs_.2.2.2.2.2.2) (fun hs_ => hs_.2.2.2.2.2.2)) (fun hn_ => (Kd.freshB (g := gb185) (o := .cells #[.slice none 0 0, .slice none 0 0] 26 (0, 0)) (kU BK185.out) k_ hn_))⟩)) (below_size (bS6 HB.out GE166.out GE167.out GE168.out GE169.out GE184.out GE185.out)))
            have HO177 := Aside0.mk (Kd.V_lower (Kd.V_mono (ok' := fun k_ => ((P0_0_ k_ ∨ P0_1_ k_ ∨ P1_0_ k_ ∨ P1_1_ k_) ∨ w.heap.size ≤ k_) ∧ k_ ≠ gb166 ∧ k_ ≠ gb167 ∧ k_ ≠ gb168 ∧ k_ ≠ gb169 ∧ k_ ≠ gb184 ∧ k_ ≠ gb185) ho1 (fun k_ hk_ => ⟨Or.elim hk_ (fun hs_ => Or.elim hs_ (fun hs_ => hs_.1) (fun hs_ => hs_.1)) (fun hn_ => (.inr (Nat.le_trans (below_size (bS6 HB.out GE166.out GE167.out GE168.out GE169.out GE184.out GE185.out)) hn_))), Or.elim hk_ (fun hs_ => Or.elim hs_ (fun hs_ => hs_.2.1) (fun hs_ => hs_.2.1)) (fun hn_ => (Kd.freshB (g := gb166) (o := .cells #[.slice A0_0 l0_0.length c0_0, .slice A0_1 l0_1.length c0_1] 26 (0, 0)) (kU BK166.out) k_ hn_)), Or.elim hk_ (fun hs_ => Or.elim hs_ (fun hs_ => hs_.2.2.1) (fun hs_ => hs_.2.2.1)) (fun hn_ => (Kd.freshB (g := gb167) (o := .cells #[.slice A1_0 l1_0.length c1_0, .slice A1_1 l1_1.length c1_1] 26 (0, 0)) (kU BK167.out) k_ hn_)), Or.elim hk_ (fun hs_ => Or.elim hs_ (fun hs_ => hs_.2.2.2.1) (fun hs_ => hs_.2.2.2.1)) (fun hn_ => (Kd.freshB (g := gb168) (o := .cells #[.slice none 0 0, .slice none 0 0] 26 (0, 0)) (kU BK168.out) k_ hn_)), Or.elim hk_ (fun hs_ => Or.elim hs_ (fun hs_ => hs_.2.2.2.2.1) (fun hs_ => hs_.2.2.2.2.1)) (fun hn_ => (Kd.freshB (g := gb169) (o := .cells #[.slice none 0 0, .slice none 0 0] 26 (0, 0)) (kU BK169.out) k_ hn_)), Or.elim hk_ (fun hs_ => Or.elim hs_ (fun hs_ => hs_.2.2.2.2.2.1) (fun hs_ => hs_.2.2.2.2.2.1)) (fun hn_ => (Kd.freshB (g := gb184) (o := .cells #[.slice none 0 0, .slice none 0 0] 26 (0, 0)) (kU BK184.out) k_ hn_)), Or.elim hk_ (fun hs_ => Or.elim hs_ (fun hs_ => hs_.2.2.2.2.2.2) (fun hs_ => hs_.2.2.2.2.2.2)) (fun hn_ => (Kd.freshB (g := gb185) (o := .cells #[.slice none 0 0, .slice none 0 0] 26 (0, 0)) (kU BK185.out) k_ hn_))⟩)) (below_size (bS6 HB.out GE166.out GE167.out GE168.out GE169.out GE184.out GE185.out)))
            replace BK166 := Aside0.mk (kB BK166.out hb)
            replace BK167 := Aside0.mk (kB BK167.out hb)
            replace BK168 := Aside0.mk (kB BK168.out hb)
            replace BK169 := Aside0.mk (kB BK169.out hb)
            replace BK184 := Aside0.mk (kB BK184.out hb)
            replace BK185 := Aside0.mk (kB BK185.out hb)
            replace HB := Aside0.mk (below_step (bS6 HB.out GE166.out GE167.out GE168.out GE169.out GE184.out GE185.out) hb)
            (try clear hb)
            (try clear hb2)
            (try clear hk)
            (try clear hi)
            (try clear ho0)
            (try clear ho1)
            refine hK.out _ _ ⟨(blk_cell BK166.out 0).trans rfl, (blk_cell BK166.out 1).trans rfl, (blk_cell BK167.out 0).trans rfl, (blk_cell BK167.out 1).trans rfl⟩ (fun hHeld => ?_)
            clear hK K
            refine norm_ (a' := ?_) ?_ ?_
            rotate_left
            ·
             show Act.put _ (some 21) _ = _
             simp only [Act.put, List.setIfInBounds_toArray, List.set_cons_zero, List.set_cons_succ, i64_w, i32_w]
             rfl
            exact norm_ (by first | (simp only [putAll, Act.put, List.setIfInBounds_toArray, List.set_cons_zero, List.set_cons_succ]; done) | (simp only [putAll, Act.put, List.setIfInBounds_toArray, List.set_cons_zero, List.set_cons_succ]; rfl)) (hJ1_4_5 (v173, v176, gb184, gb185) _ ⟨hHeld, (VU HO174.out), (VU HO177.out), (VU HO_167000.out), (VU HO_167001.out), (VU HO_168000.out), (VU HO_168001.out), (kU BK166.out), (kU BK167.out), (kU BK168.out), (kU BK169.out), (kU BK184.out), (kU BK185.out), GW184.out, GE184.out, NB166_184.out, NB184_166.out, NB167_184.out, NB184_167.out, NB168_184.out, NB184_168.out, NB169_184.out, NB184_169.out, NB185_184.out, NB184_185.out, GW185.out, GE185.out, NB166_185.out, NB185_166.out, NB167_185.out, NB185_167.out, NB168_185.out, NB185_168.out, NB169_185.out, NB185_169.out, (bS6 HB.out GE166.out GE167.out GE168.out GE169.out GE184.out GE185.out)⟩)
          ·
           skip
           rintro ⟨v173, v176, gb185⟩ w54 ⟨hS_, h0_, h1_, h2_, h3_, h4_, h5_, h6_, h7_, h8_, h9_, h10_, h11_, h12_, h13_, h14_, h15_, h16_, h17_, h18_, h19_, h20_, h21_⟩
           have n0_ : Aside0 (Kd.V (Kd.int .i64) 3 w54 w.heap.size (fun k_ => ((P0_0_ k_ ∨ P0_1_ k_ ∨ P1_0_ k_ ∨ P1_1_ k_) ∨ w.heap.size ≤ k_) ∧ k_ ≠ gb166 ∧ k_ ≠ gb167 ∧ k_ ≠ gb168 ∧ k_ ≠ gb169 ∧ k_ ≠ gb185) v173 t172) := ⟨h0_⟩
           have n1_ : Aside0 (Kd.V (Kd.int .i64) 3 w54 w.heap.size (fun k_ => ((P0_0_ k_ ∨ P0_1_ k_ ∨ P1_0_ k_ ∨ P1_1_ k_) ∨ w.heap.size ≤ k_) ∧ k_ ≠ gb166 ∧ k_ ≠ gb167 ∧ k_ ≠ gb168 ∧ k_ ≠ gb169 ∧ k_ ≠ gb185) v176 t175) := ⟨h1_⟩
           have n2_ : Aside0 (Kd.V (Kd.int .i64) 3 w54 w.heap.size (fun k_ => ((P0_0_ k_ ∨ P0_1_ k_ ∨ P1_0_ k_ ∨ P1_1_ k_) ∨ w.heap.size ≤ k_) ∧ k_ ≠ gb166 ∧ k_ ≠ gb167 ∧ k_ ≠ gb168 ∧ k_ ≠ gb169 ∧ k_ ≠ gb185) (.slice A0_0 l0_0.length c0_0) l0_0) := ⟨h2_⟩
           have n3_ : Aside0 (Kd.V (Kd.int .i64) 3 w54 w.heap.size (fun k_ => ((P0_0_ k_ ∨ P0_1_ k_ ∨ P1_0_ k_ ∨ P1_1_ k_) ∨ w.heap.size ≤ k_) ∧ k_ ≠ gb166 ∧ k_ ≠ gb167 ∧ k_ ≠ gb168 ∧ k_ ≠ gb169 ∧ k_ ≠ gb185) (.slice A0_1 l0_1.length c0_1) l0_1) := ⟨h3_⟩
           have n4_ : Aside0 (Kd.V (Kd.int .i64) 3 w54 w.heap.size (fun k_ => ((P0_0_ k_ ∨ P0_1_ k_ ∨ P1_0_ k_ ∨ P1_1_ k_) ∨ w.heap.size ≤ k_) ∧ k_ ≠ gb166 ∧ k_ ≠ gb167 ∧ k_ ≠ gb168 ∧ k_ ≠ gb169 ∧ k_ ≠ gb185) (.slice A1_0 l1_0.length c1_0) l1_0) := ⟨h4_⟩
           have n5_ : Aside0 (Kd.V (Kd.int .i64) 3 w54 w.heap.size (fun k_ => ((P0_0_ k_ ∨ P0_1_ k_ ∨ P1_0_ k_ ∨ P1_1_ k_) ∨ w.heap.size ≤ k_) ∧ k_ ≠ gb166 ∧ k_ ≠ gb167 ∧ k_ ≠ gb168 ∧ k_ ≠ gb169 ∧ k_ ≠ gb185) (.slice A1_1 l1_1.length c1_1) l1_1) := ⟨h5_⟩
           have n6_ : Aside0 (w54.heap[gb166]? = some (.cells #[.slice A0_0 l0_0.length c0_0, .slice A0_1 l0_1.length c0_1] 26 (0, 0))) := ⟨h6_⟩
           have n7_ : Aside0 (w54.heap[gb167]? = some (.cells #[.slice A1_0 l1_0.length c1_0, .slice A1_1 l1_1.length c1_1] 26 (0, 0))) := ⟨h7_⟩
           have n8_ : Aside0 (w54.heap[gb168]? = some (.cells #[.slice none 0 0, .slice none 0 0] 26 (0, 0))) := ⟨h8_⟩
           have n9_ : Aside0 (w54.heap[gb169]? = some (.cells #[.slice none 0 0, .slice none 0 0] 26 (0, 0))) := ⟨h9_⟩
           have n10_ : Aside0 (w54.heap[gb185]? = some (.cells #[.slice none 0 0, .slice none 0 0] 26 (0, 0))) := ⟨h10_⟩
           have n11_ : Aside0 (w.heap.size ≤ gb185) := ⟨h11_⟩
           have n12_ : Aside0 (w.heap.size ≤ gb185) := ⟨h12_⟩
           have n13_ : Aside0 (gb166 ≠ gb185) := ⟨h13_⟩
           have n14_ : Aside0 (gb185 ≠ gb166) := ⟨h14_⟩
           have n15_ : Aside0 (gb167 ≠ gb185) := ⟨h15_⟩
           have n16_ : Aside0 (gb185 ≠ gb167) := ⟨h16_⟩
           have n17_ : Aside0 (gb168 ≠ gb185) := ⟨h17_⟩
           have n18_ : Aside0 (gb185 ≠ gb168) := ⟨h18_⟩
           have n19_ : Aside0 (gb169 ≠ gb185) := ⟨h19_⟩
           have n20_ : Aside0 (gb185 ≠ gb169) := ⟨h20_⟩
           have n21_ : Aside0 (Below w.heap.size w w54) := ⟨h21_⟩
           clear HO_167000 HO_167001 HO_168000 HO_168001 BK166 BK167 BK168 BK169 HB
           clear h0_ h1_ h2_ h3_ h4_ h5_ h6_ h7_ h8_ h9_ h10_ h11_ h12_ h13_ h14_ h15_ h16_ h17_ h18_ h19_ h20_ h21_
           have HO174 := n0_
           have HO177 := n1_
           have HO_167000 := n2_
           have HO_167001 := n3_
           have HO_168000 := n4_
           have HO_168001 := n5_
           have BK166 := n6_
           have BK167 := n7_
           have BK168 := n8_
           have BK169 := n9_
           have BK185 := n10_
           have GW185 := n11_
           have GE185 := n12_
           have NB166_185 := n13_
           have NB185_166 := n14_
           have NB167_185 := n15_
           have NB185_167 := n16_
           have NB168_185 := n17_
           have NB185_168 := n18_
           have NB169_185 := n19_
           have NB185_169 := n20_
           have HB := n21_
           clear n0_ n1_ n2_ n3_ n4_ n5_ n6_ n7_ n8_ n9_ n10_ n11_ n12_ n13_ n14_ n15_ n16_ n17_ n18_ n19_ n20_ n21_
           have hHeld : w54.cell? ⟨gb166, 0, none⟩ = some (.slice A0_0 l0_0.length c0_0) ∧ w54.cell? ⟨gb166, 1, none⟩ = some (.slice A0_1 l0_1.length c0_1) ∧ w54.cell? ⟨gb167, 0, none⟩ = some (.slice A1_0 l1_0.length c1_0) ∧ w54.cell? ⟨gb167, 1, none⟩ = some (.slice A1_1 l1_1.length c1_1) := hS_
           refine norm_ (a' := ?_) ?_ ?_
           rotate_left
           ·
            simp only [putAll, Act.put, List.setIfInBounds_toArray, List.set_cons_zero, List.set_cons_succ]
            rfl
           refine two_ (i := 3) (j := 4) (Ni := some 23) (Nj := some 7) #[true, true, true, true, false, true, false, false] #[true, true, true, false, true, true, false, false] rfl rfl rfl rfl (two_of HT_.out (by kernel_rfl)) (by decide) (by decide) (fun K hK => ?_) (fun K hK => ?_)
           ·
            skip
            refine goes_ Try.func100 (by kernel_rfl) rfl #[.agg #[.slice A1_0 l1_0.length c1_0, .slice A1_1 l1_1.length c1_1]] (by rfl) rfl rfl lU ?_
            with_reducible refine (spec_l5Vector.calls (fun k_ => (((P0_0_ k_ ∨ P0_1_ k_ ∨ P1_0_ k_ ∨ P1_1_ k_) ∨ w.heap.size ≤ k_) ∧ (k_ ≠ gb166 ∧ (k_ ≠ gb167 ∧ (k_ ≠ gb168 ∧ (k_ ≠ gb169 ∧ k_ ≠ gb185)))))) _ _ l1_0 (fun k_ => (((P0_0_ k_ ∨ P0_1_ k_ ∨ P1_0_ k_ ∨ P1_1_ k_) ∨ w.heap.size ≤ k_) ∧ (k_ ≠ gb166 ∧ (k_ ≠ gb167 ∧ (k_ ≠ gb168 ∧ (k_ ≠ gb169 ∧ k_ ≠ gb185)))))) _ _ l1_1 t178 t181 _ ?side1 ?side2 A38.out).mono ?_
            (case side1 => exact HO_168000.out)
            (case side2 => exact HO_168001.out)
            rintro e w55 ⟨v179, v182, rfl, ho0, ho1, hb⟩
            refine ⟨_, rfl, ?_⟩
            replace HO_167000 := Aside0.mk (Kd.V_below (VU HO_167000.out) hb)
            replace HO_167001 := Aside0.mk (Kd.V_below (VU HO_167001.out) hb)
            replace HO_168000 := Aside0.mk (Kd.V_below (VU HO_168000.out) hb)
            replace HO_168001 := Aside0.mk (Kd.V_below (VU HO_168001.out) hb)
            replace HO174 := Aside0.mk (Kd.V_below (VU HO174.out) hb)
            replace HO177 := Aside0.mk (Kd.V_below (VU HO177.out) hb)
            have HO180 := Aside0.mk (Kd.V_lower (Kd.V_mono (ok' := fun k_ => ((P0_0_ k_ ∨ P0_1_ k_ ∨ P1_0_ k_ ∨ P1_1_ k_) ∨ w.heap.size ≤ k_) ∧ k_ ≠ gb166 ∧ k_ ≠ gb167 ∧ k_ ≠ gb168 ∧ k_ ≠ gb169 ∧ k_ ≠ gb185) ho0 (fun k_ hk_ => ⟨Or.elim hk_ (fun hs_ => Or.elim hs_ (fun hs_ => hs_.1) (fun hs_ => hs_.1)) (fun hn_ => (.inr (Nat.le_trans (below_size (bS5 HB.out GE166.out GE167.out GE168.out GE169.out GE185.out)) hn_))), Or.elim hk_ (fun hs_ => Or.elim hs_ (fun hs_ => hs_.2.1) (fun hs_ => hs_.2.1)) (fun hn_ => (Kd.freshB (g := gb166) (o := .cells #[.slice A0_0 l0_0.length c0_0, .slice A0_1 l0_1.length c0_1] 26 (0, 0)) (kU BK166.out) k_ hn_)), Or.elim hk_ (fun hs_ => Or.elim hs_ (fun hs_ => hs_.2.2.1) (fun hs_ => hs_.2.2.1)) (fun hn_ => (Kd.freshB (g := gb167) (o := .cells #[.slice A1_0 l1_0.length c1_0, .slice A1_1 l1_1.length c1_1] 26 (0, 0)) (kU BK167.out) k_ hn_)), Or.elim hk_ (fun hs_ => Or.elim hs_ (fun hs_ => hs_.2.2.2.1) (fun hs_ => hs_.2.2.2.1)) (fun hn_ => (Kd.freshB (g := gb168) (o := .cells #[.slice none 0 0, .slice none 0 0] 26 (0, 0)) (kU BK168.out) k_ hn_)), Or.elim hk_ (fun hs_ => Or.elim hs_ (fun hs_ => hs_.2.2.2.2.1) (fun hs_ => hs_.2.2.2.2.1)) (fun hn_ => (Kd.freshB (g := gb169) (o := .cells #[.slice none 0 0, .slice none 0 0] 26 (0, 0)) (kU BK169.out) k_ hn_)), Or.elim hk_ (fun hs_ => Or.elim hs_ (fun hs_ => hs_.2.2.2.2.2) (fun hs_ => hs_.2.2.2.2.2)) (fun hn_ => (Kd.freshB (g := gb185) (o := .cells #[.slice none 0 0, .slice none 0 0] 26 (0, 0)) (kU BK185.out) k_ hn_))⟩)) (below_size (bS5 HB.out GE166.out GE167.out GE168.out GE169.out GE185.out)))
            have HO183 := Aside0.mk (Kd.V_lower (Kd.V_mono (ok' := fun k_ => ((P0_0_ k_ ∨ P0_1_ k_ ∨ P1_0_ k_ ∨ P1_1_ k_) ∨ w.heap.size ≤ k_) ∧ k_ ≠ gb166 ∧ k_ ≠ gb167 ∧ k_ ≠ gb168 ∧ k_ ≠ gb169 ∧ k_ ≠ gb185) ho1 (fun k_ hk_ => ⟨Or.elim hk_ (fun hs_ => Or.elim hs_ (fun hs_ => hs_.1) (fun hs_ => hs_.1)) (fun hn_ => (.inr (Nat.le_trans (below_size (bS5 HB.out GE166.out GE167.out GE168.out GE169.out GE185.out)) hn_))), Or.elim hk_ (fun hs_ => Or.elim hs_ (fun hs_ => hs_.2.1) (fun hs_ => hs_.2.1)) (fun hn_ => (Kd.freshB (g := gb166) (o := .cells #[.slice A0_0 l0_0.length c0_0, .slice A0_1 l0_1.length c0_1] 26 (0, 0)) (kU BK166.out) k_ hn_)), Or.elim hk_ (fun hs_ => Or.elim hs_ (fun hs_ => hs_.2.2.1) (fun hs_ => hs_.2.2.1)) (fun hn_ => (Kd.freshB (g := gb167) (o := .cells #[.slice A1_0 l1_0.length c1_0, .slice A1_1 l1_1.length c1_1] 26 (0, 0)) (kU BK167.out) k_ hn_)), Or.elim hk_ (fun hs_ => Or.elim hs_ (fun hs_ => hs_.2.2.2.1) (fun hs_ => hs_.2.2.2.1)) (fun hn_ => (Kd.freshB (g := gb168) (o := .cells #[.slice none 0 0, .slice none 0 0] 26 (0, 0)) (kU BK168.out) k_ hn_)), Or.elim hk_ (fun hs_ => Or.elim hs_ (fun hs_ => hs_.2.2.2.2.1) (fun hs_ => hs_.2.2.2.2.1)) (fun hn_ => (Kd.freshB (g := gb169) (o := .cells #[.slice none 0 0, .slice none 0 0] 26 (0, 0)) (kU BK169.out) k_ hn_)), Or.elim hk_ (fun hs_ => Or.elim hs_ (fun hs_ => hs_.2.2.2.2.2) (fun hs_ => hs_.2.2.2.2.2)) (fun hn_ => (Kd.freshB (g := gb185) (o := .cells #[.slice none 0 0, .slice none 0 0] 26 (0, 0)) (kU BK185.out) k_ hn_))⟩)) (below_size (bS5 HB.out GE166.out GE167.out GE168.out GE169.out GE185.out)))
            replace BK166 := Aside0.mk (kB BK166.out hb)
            replace BK167 := Aside0.mk (kB BK167.out hb)
            replace BK168 := Aside0.mk (kB BK168.out hb)
            replace BK169 := Aside0.mk (kB BK169.out hb)
            replace BK185 := Aside0.mk (kB BK185.out hb)
            replace HB := Aside0.mk (below_step (bS5 HB.out GE166.out GE167.out GE168.out GE169.out GE185.out) hb)
            (try clear hb)
            (try clear hb2)
            (try clear hk)
            (try clear hi)
            (try clear ho0)
            (try clear ho1)
            refine hK.out _ _ ⟨(blk_cell BK166.out 0).trans rfl, (blk_cell BK166.out 1).trans rfl, (blk_cell BK167.out 0).trans rfl, (blk_cell BK167.out 1).trans rfl⟩ (fun hHeld => ?_)
            clear hK K
            refine norm_ (a' := ?_) ?_ ?_
            rotate_left
            ·
             show Act.put _ (some 23) _ = _
             simp only [Act.put, List.setIfInBounds_toArray, List.set_cons_zero, List.set_cons_succ, i64_w, i32_w]
             rfl
            exact norm_ (by first | (simp only [putAll, Act.put, List.setIfInBounds_toArray, List.set_cons_zero, List.set_cons_succ]; done) | (simp only [putAll, Act.put, List.setIfInBounds_toArray, List.set_cons_zero, List.set_cons_succ]; rfl)) (hJ1_3_5 (v173, v176, v179, v182, gb185) _ ⟨hHeld, (VU HO174.out), (VU HO177.out), (VU HO180.out), (VU HO183.out), (VU HO_167000.out), (VU HO_167001.out), (VU HO_168000.out), (VU HO_168001.out), (kU BK166.out), (kU BK167.out), (kU BK168.out), (kU BK169.out), (kU BK185.out), GW185.out, GE185.out, NB166_185.out, NB185_166.out, NB167_185.out, NB185_167.out, NB168_185.out, NB185_168.out, NB169_185.out, NB185_169.out, (bS5 HB.out GE166.out GE167.out GE168.out GE169.out GE185.out)⟩)
           ·
            skip
            refine box_step ?hg (N := 7) ?hd (cs := #[.slice none 0 0, .slice none 0 0]) (t := 26) ?hr ?_; (case hd => rfl); (case hg => rfl); (case hr => first | (go_simp; done) | (go_simp; rfl))
            intro gb184 hg w55 hbox hb
            replace HO_167000 := Aside0.mk (Kd.V_below (Kd.V_elderB (VU HO_167000.out) gb184 (Nat.le_of_eq hg.symm)) hb)
            replace HO_167001 := Aside0.mk (Kd.V_below (Kd.V_elderB (VU HO_167001.out) gb184 (Nat.le_of_eq hg.symm)) hb)
            replace HO_168000 := Aside0.mk (Kd.V_below (Kd.V_elderB (VU HO_168000.out) gb184 (Nat.le_of_eq hg.symm)) hb)
            replace HO_168001 := Aside0.mk (Kd.V_below (Kd.V_elderB (VU HO_168001.out) gb184 (Nat.le_of_eq hg.symm)) hb)
            replace HO174 := Aside0.mk (Kd.V_below (Kd.V_elderB (VU HO174.out) gb184 (Nat.le_of_eq hg.symm)) hb)
            replace HO177 := Aside0.mk (Kd.V_below (Kd.V_elderB (VU HO177.out) gb184 (Nat.le_of_eq hg.symm)) hb)
            have BK184 := Aside0.mk (hbox)
            have GW184 := Aside0.mk ((by rw [hg]; exact (below_size (bS5 HB.out GE166.out GE167.out GE168.out GE169.out GE185.out)) : w.heap.size ≤ gb184))
            have GE184 := Aside0.mk ((by rw [hg]; exact (below_size (bS5 HB.out GE166.out GE167.out GE168.out GE169.out GE185.out)) : w.heap.size ≤ gb184))
            replace HB := Aside0.mk (below_step (bS5 HB.out GE166.out GE167.out GE168.out GE169.out GE185.out) hb)
            have NB166_184 := Aside0.mk (kN BK166.out hg)
            have NB184_166 := Aside0.mk (kM BK166.out hg)
            replace BK166 := Aside0.mk (kB BK166.out hb)
            have NB167_184 := Aside0.mk (kN BK167.out hg)
            have NB184_167 := Aside0.mk (kM BK167.out hg)
            replace BK167 := Aside0.mk (kB BK167.out hb)
            have NB168_184 := Aside0.mk (kN BK168.out hg)
            have NB184_168 := Aside0.mk (kM BK168.out hg)
            replace BK168 := Aside0.mk (kB BK168.out hb)
            have NB169_184 := Aside0.mk (kN BK169.out hg)
            have NB184_169 := Aside0.mk (kM BK169.out hg)
            replace BK169 := Aside0.mk (kB BK169.out hb)
            have NB185_184 := Aside0.mk (kN BK185.out hg)
            have NB184_185 := Aside0.mk (kM BK185.out hg)
            replace BK185 := Aside0.mk (kB BK185.out hb)
            clear hb hbox hg
            refine hK.out _ _ ⟨(blk_cell BK166.out 0).trans rfl, (blk_cell BK166.out 1).trans rfl, (blk_cell BK167.out 0).trans rfl, (blk_cell BK167.out 1).trans rfl⟩ (fun hHeld => ?_)
            clear hK K
            refine norm_ (a' := ?_) ?_ ?_
            rotate_left
            ·
             show Act.put _ (some 7) _ = _
             simp only [Act.put, List.setIfInBounds_toArray, List.set_cons_zero, List.set_cons_succ, i64_w, i32_w]
             rfl
            exact norm_ (by first | (simp only [putAll, Act.put, List.setIfInBounds_toArray, List.set_cons_zero, List.set_cons_succ]; done) | (simp only [putAll, Act.put, List.setIfInBounds_toArray, List.set_cons_zero, List.set_cons_succ]; rfl)) (hJ1_4_5 (v173, v176, gb184, gb185) _ ⟨hHeld, (by refine VU ?_; exact Kd.V_mono HO174.out (fun _ hk => ⟨hk.1.1, ⟨hk.1.2.1, ⟨hk.1.2.2.1, ⟨hk.1.2.2.2.1, ⟨hk.1.2.2.2.2.1, ⟨hk.2, hk.1.2.2.2.2.2⟩⟩⟩⟩⟩⟩)), (by refine VU ?_; exact Kd.V_mono HO177.out (fun _ hk => ⟨hk.1.1, ⟨hk.1.2.1, ⟨hk.1.2.2.1, ⟨hk.1.2.2.2.1, ⟨hk.1.2.2.2.2.1, ⟨hk.2, hk.1.2.2.2.2.2⟩⟩⟩⟩⟩⟩)), (by refine VU ?_; exact Kd.V_mono HO_167000.out (fun _ hk => ⟨hk.1.1, ⟨hk.1.2.1, ⟨hk.1.2.2.1, ⟨hk.1.2.2.2.1, ⟨hk.1.2.2.2.2.1, ⟨hk.2, hk.1.2.2.2.2.2⟩⟩⟩⟩⟩⟩)), (by refine VU ?_; exact Kd.V_mono HO_167001.out (fun _ hk => ⟨hk.1.1, ⟨hk.1.2.1, ⟨hk.1.2.2.1, ⟨hk.1.2.2.2.1, ⟨hk.1.2.2.2.2.1, ⟨hk.2, hk.1.2.2.2.2.2⟩⟩⟩⟩⟩⟩)), (by refine VU ?_; exact Kd.V_mono HO_168000.out (fun _ hk => ⟨hk.1.1, ⟨hk.1.2.1, ⟨hk.1.2.2.1, ⟨hk.1.2.2.2.1, ⟨hk.1.2.2.2.2.1, ⟨hk.2, hk.1.2.2.2.2.2⟩⟩⟩⟩⟩⟩)), (by refine VU ?_; exact Kd.V_mono HO_168001.out (fun _ hk => ⟨hk.1.1, ⟨hk.1.2.1, ⟨hk.1.2.2.1, ⟨hk.1.2.2.2.1, ⟨hk.1.2.2.2.2.1, ⟨hk.2, hk.1.2.2.2.2.2⟩⟩⟩⟩⟩⟩)), (kU BK166.out), (kU BK167.out), (kU BK168.out), (kU BK169.out), (kU BK184.out), (kU BK185.out), GW184.out, GE184.out, NB166_184.out, NB184_166.out, NB167_184.out, NB184_167.out, NB168_184.out, NB184_168.out, NB169_184.out, NB184_169.out, NB185_184.out, NB184_185.out, GW185.out, GE185.out, NB166_185.out, NB185_166.out, NB167_185.out, NB185_167.out, NB168_185.out, NB185_168.out, NB169_185.out, NB185_169.out, (bS6 HB.out GE166.out GE167.out GE168.out GE169.out GE185.out GE184.out)⟩)
         ·
          skip
          rintro ⟨v173, v176, gb184⟩ w54 ⟨hS_, h0_, h1_, h2_, h3_, h4_, h5_, h6_, h7_, h8_, h9_, h10_, h11_, h12_, h13_, h14_, h15_, h16_, h17_, h18_, h19_, h20_, h21_⟩
          have n0_ : Aside0 (Kd.V (Kd.int .i64) 3 w54 w.heap.size (fun k_ => ((P0_0_ k_ ∨ P0_1_ k_ ∨ P1_0_ k_ ∨ P1_1_ k_) ∨ w.heap.size ≤ k_) ∧ k_ ≠ gb166 ∧ k_ ≠ gb167 ∧ k_ ≠ gb168 ∧ k_ ≠ gb169 ∧ k_ ≠ gb184) v173 t172) := ⟨h0_⟩
          have n1_ : Aside0 (Kd.V (Kd.int .i64) 3 w54 w.heap.size (fun k_ => ((P0_0_ k_ ∨ P0_1_ k_ ∨ P1_0_ k_ ∨ P1_1_ k_) ∨ w.heap.size ≤ k_) ∧ k_ ≠ gb166 ∧ k_ ≠ gb167 ∧ k_ ≠ gb168 ∧ k_ ≠ gb169 ∧ k_ ≠ gb184) v176 t175) := ⟨h1_⟩
          have n2_ : Aside0 (Kd.V (Kd.int .i64) 3 w54 w.heap.size (fun k_ => ((P0_0_ k_ ∨ P0_1_ k_ ∨ P1_0_ k_ ∨ P1_1_ k_) ∨ w.heap.size ≤ k_) ∧ k_ ≠ gb166 ∧ k_ ≠ gb167 ∧ k_ ≠ gb168 ∧ k_ ≠ gb169 ∧ k_ ≠ gb184) (.slice A0_0 l0_0.length c0_0) l0_0) := ⟨h2_⟩
          have n3_ : Aside0 (Kd.V (Kd.int .i64) 3 w54 w.heap.size (fun k_ => ((P0_0_ k_ ∨ P0_1_ k_ ∨ P1_0_ k_ ∨ P1_1_ k_) ∨ w.heap.size ≤ k_) ∧ k_ ≠ gb166 ∧ k_ ≠ gb167 ∧ k_ ≠ gb168 ∧ k_ ≠ gb169 ∧ k_ ≠ gb184) (.slice A0_1 l0_1.length c0_1) l0_1) := ⟨h3_⟩
          have n4_ : Aside0 (Kd.V (Kd.int .i64) 3 w54 w.heap.size (fun k_ => ((P0_0_ k_ ∨ P0_1_ k_ ∨ P1_0_ k_ ∨ P1_1_ k_) ∨ w.heap.size ≤ k_) ∧ k_ ≠ gb166 ∧ k_ ≠ gb167 ∧ k_ ≠ gb168 ∧ k_ ≠ gb169 ∧ k_ ≠ gb184) (.slice A1_0 l1_0.length c1_0) l1_0) := ⟨h4_⟩
          have n5_ : Aside0 (Kd.V (Kd.int .i64) 3 w54 w.heap.size (fun k_ => ((P0_0_ k_ ∨ P0_1_ k_ ∨ P1_0_ k_ ∨ P1_1_ k_) ∨ w.heap.size ≤ k_) ∧ k_ ≠ gb166 ∧ k_ ≠ gb167 ∧ k_ ≠ gb168 ∧ k_ ≠ gb169 ∧ k_ ≠ gb184) (.slice A1_1 l1_1.length c1_1) l1_1) := ⟨h5_⟩
          have n6_ : Aside0 (w54.heap[gb166]? = some (.cells #[.slice A0_0 l0_0.length c0_0, .slice A0_1 l0_1.length c0_1] 26 (0, 0))) := ⟨h6_⟩
          have n7_ : Aside0 (w54.heap[gb167]? = some (.cells #[.slice A1_0 l1_0.length c1_0, .slice A1_1 l1_1.length c1_1] 26 (0, 0))) := ⟨h7_⟩
          have n8_ : Aside0 (w54.heap[gb168]? = some (.cells #[.slice none 0 0, .slice none 0 0] 26 (0, 0))) := ⟨h8_⟩
          have n9_ : Aside0 (w54.heap[gb169]? = some (.cells #[.slice none 0 0, .slice none 0 0] 26 (0, 0))) := ⟨h9_⟩
          have n10_ : Aside0 (w54.heap[gb184]? = some (.cells #[.slice none 0 0, .slice none 0 0] 26 (0, 0))) := ⟨h10_⟩
          have n11_ : Aside0 (w.heap.size ≤ gb184) := ⟨h11_⟩
          have n12_ : Aside0 (w.heap.size ≤ gb184) := ⟨h12_⟩
          have n13_ : Aside0 (gb166 ≠ gb184) := ⟨h13_⟩
          have n14_ : Aside0 (gb184 ≠ gb166) := ⟨h14_⟩
          have n15_ : Aside0 (gb167 ≠ gb184) := ⟨h15_⟩
          have n16_ : Aside0 (gb184 ≠ gb167) := ⟨h16_⟩
          have n17_ : Aside0 (gb168 ≠ gb184) := ⟨h17_⟩
          have n18_ : Aside0 (gb184 ≠ gb168) := ⟨h18_⟩
          have n19_ : Aside0 (gb169 ≠ gb184) := ⟨h19_⟩
          have n20_ : Aside0 (gb184 ≠ gb169) := ⟨h20_⟩
          have n21_ : Aside0 (Below w.heap.size w w54) := ⟨h21_⟩
          clear HO_167000 HO_167001 HO_168000 HO_168001 BK166 BK167 BK168 BK169 HB
          clear h0_ h1_ h2_ h3_ h4_ h5_ h6_ h7_ h8_ h9_ h10_ h11_ h12_ h13_ h14_ h15_ h16_ h17_ h18_ h19_ h20_ h21_
          have HO174 := n0_
          have HO177 := n1_
          have HO_167000 := n2_
          have HO_167001 := n3_
          have HO_168000 := n4_
          have HO_168001 := n5_
          have BK166 := n6_
          have BK167 := n7_
          have BK168 := n8_
          have BK169 := n9_
          have BK184 := n10_
          have GW184 := n11_
          have GE184 := n12_
          have NB166_184 := n13_
          have NB184_166 := n14_
          have NB167_184 := n15_
          have NB184_167 := n16_
          have NB168_184 := n17_
          have NB184_168 := n18_
          have NB169_184 := n19_
          have NB184_169 := n20_
          have HB := n21_
          clear n0_ n1_ n2_ n3_ n4_ n5_ n6_ n7_ n8_ n9_ n10_ n11_ n12_ n13_ n14_ n15_ n16_ n17_ n18_ n19_ n20_ n21_
          have hHeld : w54.cell? ⟨gb166, 0, none⟩ = some (.slice A0_0 l0_0.length c0_0) ∧ w54.cell? ⟨gb166, 1, none⟩ = some (.slice A0_1 l0_1.length c0_1) ∧ w54.cell? ⟨gb167, 0, none⟩ = some (.slice A1_0 l1_0.length c1_0) ∧ w54.cell? ⟨gb167, 1, none⟩ = some (.slice A1_1 l1_1.length c1_1) := hS_
          refine norm_ (a' := ?_) ?_ ?_
          rotate_left
          ·
           simp only [putAll, Act.put, List.setIfInBounds_toArray, List.set_cons_zero, List.set_cons_succ]
           rfl
          refine two_ (i := 3) (j := 5) (Ni := some 23) (Nj := some 8) #[true, true, true, true, true, false, false, false] #[true, true, true, false, true, true, false, false] rfl rfl rfl rfl (two_of HT_.out (by kernel_rfl)) (by decide) (by decide) (fun K hK => ?_) (fun K hK => ?_)
          ·
           skip
           refine goes_ Try.func100 (by kernel_rfl) rfl #[.agg #[.slice A1_0 l1_0.length c1_0, .slice A1_1 l1_1.length c1_1]] (by rfl) rfl rfl lU ?_
           with_reducible refine (spec_l5Vector.calls (fun k_ => (((P0_0_ k_ ∨ P0_1_ k_ ∨ P1_0_ k_ ∨ P1_1_ k_) ∨ w.heap.size ≤ k_) ∧ (k_ ≠ gb166 ∧ (k_ ≠ gb167 ∧ (k_ ≠ gb168 ∧ (k_ ≠ gb169 ∧ k_ ≠ gb184)))))) _ _ l1_0 (fun k_ => (((P0_0_ k_ ∨ P0_1_ k_ ∨ P1_0_ k_ ∨ P1_1_ k_) ∨ w.heap.size ≤ k_) ∧ (k_ ≠ gb166 ∧ (k_ ≠ gb167 ∧ (k_ ≠ gb168 ∧ (k_ ≠ gb169 ∧ k_ ≠ gb184)))))) _ _ l1_1 t178 t181 _ ?side1 ?side2 A38.out).mono ?_
           (case side1 => exact HO_168000.out)
           (case side2 => exact HO_168001.out)
           rintro e w55 ⟨v179, v182, rfl, ho0, ho1, hb⟩
           refine ⟨_, rfl, ?_⟩
           replace HO_167000 := Aside0.mk (Kd.V_below (VU HO_167000.out) hb)
           replace HO_167001 := Aside0.mk (Kd.V_below (VU HO_167001.out) hb)
           replace HO_168000 := Aside0.mk (Kd.V_below (VU HO_168000.out) hb)
           replace HO_168001 := Aside0.mk (Kd.V_below (VU HO_168001.out) hb)
           replace HO174 := Aside0.mk (Kd.V_below (VU HO174.out) hb)
           replace HO177 := Aside0.mk (Kd.V_below (VU HO177.out) hb)
           have HO180 := Aside0.mk (Kd.V_lower (Kd.V_mono (ok' := fun k_ => ((P0_0_ k_ ∨ P0_1_ k_ ∨ P1_0_ k_ ∨ P1_1_ k_) ∨ w.heap.size ≤ k_) ∧ k_ ≠ gb166 ∧ k_ ≠ gb167 ∧ k_ ≠ gb168 ∧ k_ ≠ gb169 ∧ k_ ≠ gb184) ho0 (fun k_ hk_ => ⟨Or.elim hk_ (fun hs_ => Or.elim hs_ (fun hs_ => hs_.1) (fun hs_ => hs_.1)) (fun hn_ => (.inr (Nat.le_trans (below_size (bS5 HB.out GE166.out GE167.out GE168.out GE169.out GE184.out)) hn_))), Or.elim hk_ (fun hs_ => Or.elim hs_ (fun hs_ => hs_.2.1) (fun hs_ => hs_.2.1)) (fun hn_ => (Kd.freshB (g := gb166) (o := .cells #[.slice A0_0 l0_0.length c0_0, .slice A0_1 l0_1.length c0_1] 26 (0, 0)) (kU BK166.out) k_ hn_)), Or.elim hk_ (fun hs_ => Or.elim hs_ (fun hs_ => hs_.2.2.1) (fun hs_ => hs_.2.2.1)) (fun hn_ => (Kd.freshB (g := gb167) (o := .cells #[.slice A1_0 l1_0.length c1_0, .slice A1_1 l1_1.length c1_1] 26 (0, 0)) (kU BK167.out) k_ hn_)), Or.elim hk_ (fun hs_ => Or.elim hs_ (fun hs_ => hs_.2.2.2.1) (fun hs_ => hs_.2.2.2.1)) (fun hn_ => (Kd.freshB (g := gb168) (o := .cells #[.slice none 0 0, .slice none 0 0] 26 (0, 0)) (kU BK168.out) k_ hn_)), Or.elim hk_ (fun hs_ => Or.elim hs_ (fun hs_ => hs_.2.2.2.2.1) (fun hs_ => hs_.2.2.2.2.1)) (fun hn_ => (Kd.freshB (g := gb169) (o := .cells #[.slice none 0 0, .slice none 0 0] 26 (0, 0)) (kU BK169.out) k_ hn_)), Or.elim hk_ (fun hs_ => Or.elim hs_ (fun hs_ => hs_.2.2.2.2.2) (fun hs_ => hs_.2.2.2.2.2)) (fun hn_ => (Kd.freshB (g := gb184) (o := .cells #[.slice none 0 0, .slice none 0 0] 26 (0, 0)) (kU BK184.out) k_ hn_))⟩)) (below_size (bS5 HB.out GE166.out GE167.out GE168.out GE169.out GE184.out)))
           have HO183 := Aside0.mk (Kd.V_lower (Kd.V_mono (ok' := fun k_ => ((P0_0_ k_ ∨ P0_1_ k_ ∨ P1_0_ k_ ∨ P1_1_ k_) ∨ w.heap.size ≤ k_) ∧ k_ ≠ gb166 ∧ k_ ≠ gb167 ∧ k_ ≠ gb168 ∧ k_ ≠ gb169 ∧ k_ ≠ gb184) ho1 (fun k_ hk_ => ⟨Or.elim hk_ (fun hs_ => Or.elim hs_ (fun hs_ => hs_.1) (fun hs_ => hs_.1)) (fun hn_ => (.inr (Nat.le_trans (below_size (bS5 HB.out GE166.out GE167.out GE168.out GE169.out GE184.out)) hn_))), Or.elim hk_ (fun hs_ => Or.elim hs_ (fun hs_ => hs_.2.1) (fun hs_ => hs_.2.1)) (fun hn_ => (Kd.freshB (g := gb166) (o := .cells #[.slice A0_0 l0_0.length c0_0, .slice A0_1 l0_1.length c0_1] 26 (0, 0)) (kU BK166.out) k_ hn_)), Or.elim hk_ (fun hs_ => Or.elim hs_ (fun hs_ => hs_.2.2.1) (fun hs_ => hs_.2.2.1)) (fun hn_ => (Kd.freshB (g := gb167) (o := .cells #[.slice A1_0 l1_0.length c1_0, .slice A1_1 l1_1.length c1_1] 26 (0, 0)) (kU BK167.out) k_ hn_)), Or.elim hk_ (fun hs_ => Or.elim hs_ (fun hs_ => hs_.2.2.2.1) (fun hs_ => hs_.2.2.2.1)) (fun hn_ => (Kd.freshB (g := gb168) (o := .cells #[.slice none 0 0, .slice none 0 0] 26 (0, 0)) (kU BK168.out) k_ hn_)), Or.elim hk_ (fun hs_ => Or.elim hs_ (fun hs_ => hs_.2.2.2.2.1) (fun hs_ => hs_.2.2.2.2.1)) (fun hn_ => (Kd.freshB (g := gb169) (o := .cells #[.slice none 0 0, .slice none 0 0] 26 (0, 0)) (kU BK169.out) k_ hn_)), Or.elim hk_ (fun hs_ => Or.elim hs_ (fun hs_ => hs_.2.2.2.2.2) (fun hs_ => hs_.2.2.2.2.2)) (fun hn_ => (Kd.freshB (g := gb184) (o := .cells #[.slice none 0 0, .slice none 0 0] 26 (0, 0)) (kU BK184.out) k_ hn_))⟩)) (below_size (bS5 HB.out GE166.out GE167.out GE168.out GE169.out GE184.out)))
           replace BK166 := Aside0.mk (kB BK166.out hb)
           replace BK167 := Aside0.mk (kB BK167.out hb)
           replace BK168 := Aside0.mk (kB BK168.out hb)
           replace BK169 := Aside0.mk (kB BK169.out hb)
           replace BK184 := Aside0.mk (kB BK184.out hb)
           replace HB := Aside0.mk (below_step (bS5 HB.out GE166.out GE167.out GE168.out GE169.out GE184.out) hb)
           (try clear hb)
           (try clear hb2)
           (try clear hk)
           (try clear hi)
           (try clear ho0)
           (try clear ho1)
           refine hK.out _ _ ⟨(blk_cell BK166.out 0).trans rfl, (blk_cell BK166.out 1).trans rfl, (blk_cell BK167.out 0).trans rfl, (blk_cell BK167.out 1).trans rfl⟩ (fun hHeld => ?_)
           clear hK K
           refine norm_ (a' := ?_) ?_ ?_
           rotate_left
           ·
            show Act.put _ (some 23) _ = _
            simp only [Act.put, List.setIfInBounds_toArray, List.set_cons_zero, List.set_cons_succ, i64_w, i32_w]
            rfl
           exact norm_ (by first | (simp only [putAll, Act.put, List.setIfInBounds_toArray, List.set_cons_zero, List.set_cons_succ]; done) | (simp only [putAll, Act.put, List.setIfInBounds_toArray, List.set_cons_zero, List.set_cons_succ]; rfl)) (hJ1_3_4 (v173, v176, v179, v182, gb184) _ ⟨hHeld, (VU HO174.out), (VU HO177.out), (VU HO180.out), (VU HO183.out), (VU HO_167000.out), (VU HO_167001.out), (VU HO_168000.out), (VU HO_168001.out), (kU BK166.out), (kU BK167.out), (kU BK168.out), (kU BK169.out), (kU BK184.out), GW184.out, GE184.out, NB166_184.out, NB184_166.out, NB167_184.out, NB184_167.out, NB168_184.out, NB184_168.out, NB169_184.out, NB184_169.out, (bS5 HB.out GE166.out GE167.out GE168.out GE169.out GE184.out)⟩)
          ·
           skip
           refine box_step ?hg (N := 8) ?hd (cs := #[.slice none 0 0, .slice none 0 0]) (t := 26) ?hr ?_; (case hd => rfl); (case hg => rfl); (case hr => first | (go_simp; done) | (go_simp; rfl))
           intro gb185 hg w55 hbox hb
           replace HO_167000 := Aside0.mk (Kd.V_below (Kd.V_elderB (VU HO_167000.out) gb185 (Nat.le_of_eq hg.symm)) hb)
           replace HO_167001 := Aside0.mk (Kd.V_below (Kd.V_elderB (VU HO_167001.out) gb185 (Nat.le_of_eq hg.symm)) hb)
           replace HO_168000 := Aside0.mk (Kd.V_below (Kd.V_elderB (VU HO_168000.out) gb185 (Nat.le_of_eq hg.symm)) hb)
           replace HO_168001 := Aside0.mk (Kd.V_below (Kd.V_elderB (VU HO_168001.out) gb185 (Nat.le_of_eq hg.symm)) hb)
           replace HO174 := Aside0.mk (Kd.V_below (Kd.V_elderB (VU HO174.out) gb185 (Nat.le_of_eq hg.symm)) hb)
           replace HO177 := Aside0.mk (Kd.V_below (Kd.V_elderB (VU HO177.out) gb185 (Nat.le_of_eq hg.symm)) hb)
           have BK185 := Aside0.mk (hbox)
           have GW185 := Aside0.mk ((by rw [hg]; exact (below_size (bS5 HB.out GE166.out GE167.out GE168.out GE169.out GE184.out)) : w.heap.size ≤ gb185))
           have GE185 := Aside0.mk ((by rw [hg]; exact (below_size (bS5 HB.out GE166.out GE167.out GE168.out GE169.out GE184.out)) : w.heap.size ≤ gb185))
           replace HB := Aside0.mk (below_step (bS5 HB.out GE166.out GE167.out GE168.out GE169.out GE184.out) hb)
           have NB166_185 := Aside0.mk (kN BK166.out hg)
           have NB185_166 := Aside0.mk (kM BK166.out hg)
           replace BK166 := Aside0.mk (kB BK166.out hb)
           have NB167_185 := Aside0.mk (kN BK167.out hg)
           have NB185_167 := Aside0.mk (kM BK167.out hg)
           replace BK167 := Aside0.mk (kB BK167.out hb)
           have NB168_185 := Aside0.mk (kN BK168.out hg)
           have NB185_168 := Aside0.mk (kM BK168.out hg)
           replace BK168 := Aside0.mk (kB BK168.out hb)
           have NB169_185 := Aside0.mk (kN BK169.out hg)
           have NB185_169 := Aside0.mk (kM BK169.out hg)
           replace BK169 := Aside0.mk (kB BK169.out hb)
           have NB184_185 := Aside0.mk (kN BK184.out hg)
           have NB185_184 := Aside0.mk (kM BK184.out hg)
           replace BK184 := Aside0.mk (kB BK184.out hb)
           clear hb hbox hg
           refine hK.out _ _ ⟨(blk_cell BK166.out 0).trans rfl, (blk_cell BK166.out 1).trans rfl, (blk_cell BK167.out 0).trans rfl, (blk_cell BK167.out 1).trans rfl⟩ (fun hHeld => ?_)
           clear hK K
           refine norm_ (a' := ?_) ?_ ?_
           rotate_left
           ·
            show Act.put _ (some 8) _ = _
            simp only [Act.put, List.setIfInBounds_toArray, List.set_cons_zero, List.set_cons_succ, i64_w, i32_w]
            rfl
           exact norm_ (by first | (simp only [putAll, Act.put, List.setIfInBounds_toArray, List.set_cons_zero, List.set_cons_succ]; done) | (simp only [putAll, Act.put, List.setIfInBounds_toArray, List.set_cons_zero, List.set_cons_succ]; rfl)) (hJ1_4_5 (v173, v176, gb184, gb185) _ ⟨hHeld, (by refine VU ?_; exact Kd.V_mono HO174.out (fun _ hk => ⟨hk.1.1, ⟨hk.1.2.1, ⟨hk.1.2.2.1, ⟨hk.1.2.2.2.1, ⟨hk.1.2.2.2.2.1, ⟨hk.1.2.2.2.2.2, hk.2⟩⟩⟩⟩⟩⟩)), (by refine VU ?_; exact Kd.V_mono HO177.out (fun _ hk => ⟨hk.1.1, ⟨hk.1.2.1, ⟨hk.1.2.2.1, ⟨hk.1.2.2.2.1, ⟨hk.1.2.2.2.2.1, ⟨hk.1.2.2.2.2.2, hk.2⟩⟩⟩⟩⟩⟩)), (by refine VU ?_; exact Kd.V_mono HO_167000.out (fun _ hk => ⟨hk.1.1, ⟨hk.1.2.1, ⟨hk.1.2.2.1, ⟨hk.1.2.2.2.1, ⟨hk.1.2.2.2.2.1, ⟨hk.1.2.2.2.2.2, hk.2⟩⟩⟩⟩⟩⟩)), (by refine VU ?_; exact Kd.V_mono HO_167001.out (fun _ hk => ⟨hk.1.1, ⟨hk.1.2.1, ⟨hk.1.2.2.1, ⟨hk.1.2.2.2.1, ⟨hk.1.2.2.2.2.1, ⟨hk.1.2.2.2.2.2, hk.2⟩⟩⟩⟩⟩⟩)), (by refine VU ?_; exact Kd.V_mono HO_168000.out (fun _ hk => ⟨hk.1.1, ⟨hk.1.2.1, ⟨hk.1.2.2.1, ⟨hk.1.2.2.2.1, ⟨hk.1.2.2.2.2.1, ⟨hk.1.2.2.2.2.2, hk.2⟩⟩⟩⟩⟩⟩)), (by refine VU ?_; exact Kd.V_mono HO_168001.out (fun _ hk => ⟨hk.1.1, ⟨hk.1.2.1, ⟨hk.1.2.2.1, ⟨hk.1.2.2.2.1, ⟨hk.1.2.2.2.2.1, ⟨hk.1.2.2.2.2.2, hk.2⟩⟩⟩⟩⟩⟩)), (kU BK166.out), (kU BK167.out), (kU BK168.out), (kU BK169.out), (kU BK184.out), (kU BK185.out), GW184.out, GE184.out, NB166_184.out, NB184_166.out, NB167_184.out, NB184_167.out, NB168_184.out, NB184_168.out, NB169_184.out, NB184_169.out, NB185_184.out, NB184_185.out, GW185.out, GE185.out, NB166_185.out, NB185_166.out, NB167_185.out, NB185_167.out, NB168_185.out, NB185_168.out, NB169_185.out, NB185_169.out, (bS6 HB.out GE166.out GE167.out GE168.out GE169.out GE184.out GE185.out)⟩)
        ·
         skip
         rintro ⟨v173, v176, v179, v182⟩ w54 ⟨hS_, h0_, h1_, h2_, h3_, h4_, h5_, h6_, h7_, h8_, h9_, h10_, h11_, h12_⟩
         have n0_ : Aside0 (Kd.V (Kd.int .i64) 3 w54 w.heap.size (fun k_ => ((P0_0_ k_ ∨ P0_1_ k_ ∨ P1_0_ k_ ∨ P1_1_ k_) ∨ w.heap.size ≤ k_) ∧ k_ ≠ gb166 ∧ k_ ≠ gb167 ∧ k_ ≠ gb168 ∧ k_ ≠ gb169) v173 t172) := ⟨h0_⟩
         have n1_ : Aside0 (Kd.V (Kd.int .i64) 3 w54 w.heap.size (fun k_ => ((P0_0_ k_ ∨ P0_1_ k_ ∨ P1_0_ k_ ∨ P1_1_ k_) ∨ w.heap.size ≤ k_) ∧ k_ ≠ gb166 ∧ k_ ≠ gb167 ∧ k_ ≠ gb168 ∧ k_ ≠ gb169) v176 t175) := ⟨h1_⟩
         have n2_ : Aside0 (Kd.V (Kd.int .i64) 3 w54 w.heap.size (fun k_ => ((P0_0_ k_ ∨ P0_1_ k_ ∨ P1_0_ k_ ∨ P1_1_ k_) ∨ w.heap.size ≤ k_) ∧ k_ ≠ gb166 ∧ k_ ≠ gb167 ∧ k_ ≠ gb168 ∧ k_ ≠ gb169) v179 t178) := ⟨h2_⟩
         have n3_ : Aside0 (Kd.V (Kd.int .i64) 3 w54 w.heap.size (fun k_ => ((P0_0_ k_ ∨ P0_1_ k_ ∨ P1_0_ k_ ∨ P1_1_ k_) ∨ w.heap.size ≤ k_) ∧ k_ ≠ gb166 ∧ k_ ≠ gb167 ∧ k_ ≠ gb168 ∧ k_ ≠ gb169) v182 t181) := ⟨h3_⟩
         have n4_ : Aside0 (Kd.V (Kd.int .i64) 3 w54 w.heap.size (fun k_ => ((P0_0_ k_ ∨ P0_1_ k_ ∨ P1_0_ k_ ∨ P1_1_ k_) ∨ w.heap.size ≤ k_) ∧ k_ ≠ gb166 ∧ k_ ≠ gb167 ∧ k_ ≠ gb168 ∧ k_ ≠ gb169) (.slice A0_0 l0_0.length c0_0) l0_0) := ⟨h4_⟩
         have n5_ : Aside0 (Kd.V (Kd.int .i64) 3 w54 w.heap.size (fun k_ => ((P0_0_ k_ ∨ P0_1_ k_ ∨ P1_0_ k_ ∨ P1_1_ k_) ∨ w.heap.size ≤ k_) ∧ k_ ≠ gb166 ∧ k_ ≠ gb167 ∧ k_ ≠ gb168 ∧ k_ ≠ gb169) (.slice A0_1 l0_1.length c0_1) l0_1) := ⟨h5_⟩
         have n6_ : Aside0 (Kd.V (Kd.int .i64) 3 w54 w.heap.size (fun k_ => ((P0_0_ k_ ∨ P0_1_ k_ ∨ P1_0_ k_ ∨ P1_1_ k_) ∨ w.heap.size ≤ k_) ∧ k_ ≠ gb166 ∧ k_ ≠ gb167 ∧ k_ ≠ gb168 ∧ k_ ≠ gb169) (.slice A1_0 l1_0.length c1_0) l1_0) := ⟨h6_⟩
         have n7_ : Aside0 (Kd.V (Kd.int .i64) 3 w54 w.heap.size (fun k_ => ((P0_0_ k_ ∨ P0_1_ k_ ∨ P1_0_ k_ ∨ P1_1_ k_) ∨ w.heap.size ≤ k_) ∧ k_ ≠ gb166 ∧ k_ ≠ gb167 ∧ k_ ≠ gb168 ∧ k_ ≠ gb169) (.slice A1_1 l1_1.length c1_1) l1_1) := ⟨h7_⟩
         have n8_ : Aside0 (w54.heap[gb166]? = some (.cells #[.slice A0_0 l0_0.length c0_0, .slice A0_1 l0_1.length c0_1] 26 (0, 0))) := ⟨h8_⟩
         have n9_ : Aside0 (w54.heap[gb167]? = some (.cells #[.slice A1_0 l1_0.length c1_0, .slice A1_1 l1_1.length c1_1] 26 (0, 0))) := ⟨h9_⟩
         have n10_ : Aside0 (w54.heap[gb168]? = some (.cells #[.slice none 0 0, .slice none 0 0] 26 (0, 0))) := ⟨h10_⟩
         have n11_ : Aside0 (w54.heap[gb169]? = some (.cells #[.slice none 0 0, .slice none 0 0] 26 (0, 0))) := ⟨h11_⟩
         have n12_ : Aside0 (Below w.heap.size w w54) := ⟨h12_⟩
         clear HO_167000 HO_167001 HO_168000 HO_168001 BK166 BK167 BK168 BK169 HB
         clear h0_ h1_ h2_ h3_ h4_ h5_ h6_ h7_ h8_ h9_ h10_ h11_ h12_
         have HO174 := n0_
         have HO177 := n1_
         have HO180 := n2_
         have HO183 := n3_
         have HO_167000 := n4_
         have HO_167001 := n5_
         have HO_168000 := n6_
         have HO_168001 := n7_
         have BK166 := n8_
         have BK167 := n9_
         have BK168 := n10_
         have BK169 := n11_
         have HB := n12_
         clear n0_ n1_ n2_ n3_ n4_ n5_ n6_ n7_ n8_ n9_ n10_ n11_ n12_
         have hHeld : w54.cell? ⟨gb166, 0, none⟩ = some (.slice A0_0 l0_0.length c0_0) ∧ w54.cell? ⟨gb166, 1, none⟩ = some (.slice A0_1 l0_1.length c0_1) ∧ w54.cell? ⟨gb167, 0, none⟩ = some (.slice A1_0 l1_0.length c1_0) ∧ w54.cell? ⟨gb167, 1, none⟩ = some (.slice A1_1 l1_1.length c1_1) := hS_
         refine norm_ (a' := ?_) ?_ ?_
         rotate_left
         ·
          simp only [putAll, Act.put, List.setIfInBounds_toArray, List.set_cons_zero, List.set_cons_succ]
          rfl
         refine two_ (i := 4) (j := 5) (Ni := some 7) (Nj := some 8) #[true, true, true, true, true, false, false, false] #[true, true, true, true, false, true, false, false] rfl rfl rfl rfl (two_of HT_.out (by kernel_rfl)) (by decide) (by decide) (fun K hK => ?_) (fun K hK => ?_)
         ·
          skip
          refine box_step ?hg (N := 7) ?hd (cs := #[.slice none 0 0, .slice none 0 0]) (t := 26) ?hr ?_; (case hd => rfl); (case hg => rfl); (case hr => first | (go_simp; done) | (go_simp; rfl))
          intro gb184 hg w55 hbox hb
          replace HO_167000 := Aside0.mk (Kd.V_below (Kd.V_elderB (VU HO_167000.out) gb184 (Nat.le_of_eq hg.symm)) hb)
          replace HO_167001 := Aside0.mk (Kd.V_below (Kd.V_elderB (VU HO_167001.out) gb184 (Nat.le_of_eq hg.symm)) hb)
          replace HO_168000 := Aside0.mk (Kd.V_below (Kd.V_elderB (VU HO_168000.out) gb184 (Nat.le_of_eq hg.symm)) hb)
          replace HO_168001 := Aside0.mk (Kd.V_below (Kd.V_elderB (VU HO_168001.out) gb184 (Nat.le_of_eq hg.symm)) hb)
          replace HO174 := Aside0.mk (Kd.V_below (Kd.V_elderB (VU HO174.out) gb184 (Nat.le_of_eq hg.symm)) hb)
          replace HO177 := Aside0.mk (Kd.V_below (Kd.V_elderB (VU HO177.out) gb184 (Nat.le_of_eq hg.symm)) hb)
          replace HO180 := Aside0.mk (Kd.V_below (Kd.V_elderB (VU HO180.out) gb184 (Nat.le_of_eq hg.symm)) hb)
          replace HO183 := Aside0.mk (Kd.V_below (Kd.V_elderB (VU HO183.out) gb184 (Nat.le_of_eq hg.symm)) hb)
          have BK184 := Aside0.mk (hbox)
          have GW184 := Aside0.mk ((by rw [hg]; exact (below_size (bS4 HB.out GE166.out GE167.out GE168.out GE169.out)) : w.heap.size ≤ gb184))
          have GE184 := Aside0.mk ((by rw [hg]; exact (below_size (bS4 HB.out GE166.out GE167.out GE168.out GE169.out)) : w.heap.size ≤ gb184))
          replace HB := Aside0.mk (below_step (bS4 HB.out GE166.out GE167.out GE168.out GE169.out) hb)
          have NB166_184 := Aside0.mk (kN BK166.out hg)
          have NB184_166 := Aside0.mk (kM BK166.out hg)
          replace BK166 := Aside0.mk (kB BK166.out hb)
          have NB167_184 := Aside0.mk (kN BK167.out hg)
          have NB184_167 := Aside0.mk (kM BK167.out hg)
          replace BK167 := Aside0.mk (kB BK167.out hb)
          have NB168_184 := Aside0.mk (kN BK168.out hg)
          have NB184_168 := Aside0.mk (kM BK168.out hg)
          replace BK168 := Aside0.mk (kB BK168.out hb)
          have NB169_184 := Aside0.mk (kN BK169.out hg)
          have NB184_169 := Aside0.mk (kM BK169.out hg)
          replace BK169 := Aside0.mk (kB BK169.out hb)
          clear hb hbox hg
          refine hK.out _ _ ⟨(blk_cell BK166.out 0).trans rfl, (blk_cell BK166.out 1).trans rfl, (blk_cell BK167.out 0).trans rfl, (blk_cell BK167.out 1).trans rfl⟩ (fun hHeld => ?_)
          clear hK K
          refine norm_ (a' := ?_) ?_ ?_
          rotate_left
          ·
           show Act.put _ (some 7) _ = _
           simp only [Act.put, List.setIfInBounds_toArray, List.set_cons_zero, List.set_cons_succ, i64_w, i32_w]
           rfl
          exact norm_ (by first | (simp only [putAll, Act.put, List.setIfInBounds_toArray, List.set_cons_zero, List.set_cons_succ]; done) | (simp only [putAll, Act.put, List.setIfInBounds_toArray, List.set_cons_zero, List.set_cons_succ]; rfl)) (hJ1_3_4 (v173, v176, v179, v182, gb184) _ ⟨hHeld, (by refine VU ?_; exact Kd.V_mono HO174.out (fun _ hk => ⟨hk.1.1, ⟨hk.1.2.1, ⟨hk.1.2.2.1, ⟨hk.1.2.2.2.1, ⟨hk.1.2.2.2.2, hk.2⟩⟩⟩⟩⟩)), (by refine VU ?_; exact Kd.V_mono HO177.out (fun _ hk => ⟨hk.1.1, ⟨hk.1.2.1, ⟨hk.1.2.2.1, ⟨hk.1.2.2.2.1, ⟨hk.1.2.2.2.2, hk.2⟩⟩⟩⟩⟩)), (by refine VU ?_; exact Kd.V_mono HO180.out (fun _ hk => ⟨hk.1.1, ⟨hk.1.2.1, ⟨hk.1.2.2.1, ⟨hk.1.2.2.2.1, ⟨hk.1.2.2.2.2, hk.2⟩⟩⟩⟩⟩)), (by refine VU ?_; exact Kd.V_mono HO183.out (fun _ hk => ⟨hk.1.1, ⟨hk.1.2.1, ⟨hk.1.2.2.1, ⟨hk.1.2.2.2.1, ⟨hk.1.2.2.2.2, hk.2⟩⟩⟩⟩⟩)), (by refine VU ?_; exact Kd.V_mono HO_167000.out (fun _ hk => ⟨hk.1.1, ⟨hk.1.2.1, ⟨hk.1.2.2.1, ⟨hk.1.2.2.2.1, ⟨hk.1.2.2.2.2, hk.2⟩⟩⟩⟩⟩)), (by refine VU ?_; exact Kd.V_mono HO_167001.out (fun _ hk => ⟨hk.1.1, ⟨hk.1.2.1, ⟨hk.1.2.2.1, ⟨hk.1.2.2.2.1, ⟨hk.1.2.2.2.2, hk.2⟩⟩⟩⟩⟩)), (by refine VU ?_; exact Kd.V_mono HO_168000.out (fun _ hk => ⟨hk.1.1, ⟨hk.1.2.1, ⟨hk.1.2.2.1, ⟨hk.1.2.2.2.1, ⟨hk.1.2.2.2.2, hk.2⟩⟩⟩⟩⟩)), (by refine VU ?_; exact Kd.V_mono HO_168001.out (fun _ hk => ⟨hk.1.1, ⟨hk.1.2.1, ⟨hk.1.2.2.1, ⟨hk.1.2.2.2.1, ⟨hk.1.2.2.2.2, hk.2⟩⟩⟩⟩⟩)), (kU BK166.out), (kU BK167.out), (kU BK168.out), (kU BK169.out), (kU BK184.out), GW184.out, GE184.out, NB166_184.out, NB184_166.out, NB167_184.out, NB184_167.out, NB168_184.out, NB184_168.out, NB169_184.out, NB184_169.out, (bS5 HB.out GE166.out GE167.out GE168.out GE169.out GE184.out)⟩)
         ·
          skip
          refine box_step ?hg (N := 8) ?hd (cs := #[.slice none 0 0, .slice none 0 0]) (t := 26) ?hr ?_; (case hd => rfl); (case hg => rfl); (case hr => first | (go_simp; done) | (go_simp; rfl))
          intro gb185 hg w55 hbox hb
          replace HO_167000 := Aside0.mk (Kd.V_below (Kd.V_elderB (VU HO_167000.out) gb185 (Nat.le_of_eq hg.symm)) hb)
          replace HO_167001 := Aside0.mk (Kd.V_below (Kd.V_elderB (VU HO_167001.out) gb185 (Nat.le_of_eq hg.symm)) hb)
          replace HO_168000 := Aside0.mk (Kd.V_below (Kd.V_elderB (VU HO_168000.out) gb185 (Nat.le_of_eq hg.symm)) hb)
          replace HO_168001 := Aside0.mk (Kd.V_below (Kd.V_elderB (VU HO_168001.out) gb185 (Nat.le_of_eq hg.symm)) hb)
          replace HO174 := Aside0.mk (Kd.V_below (Kd.V_elderB (VU HO174.out) gb185 (Nat.le_of_eq hg.symm)) hb)
          replace HO177 := Aside0.mk (Kd.V_below (Kd.V_elderB (VU HO177.out) gb185 (Nat.le_of_eq hg.symm)) hb)
          replace HO180 := Aside0.mk (Kd.V_below (Kd.V_elderB (VU HO180.out) gb185 (Nat.le_of_eq hg.symm)) hb)
          replace HO183 := Aside0.mk (Kd.V_below (Kd.V_elderB (VU HO183.out) gb185 (Nat.le_of_eq hg.symm)) hb)
          have BK185 := Aside0.mk (hbox)
          have GW185 := Aside0.mk ((by rw [hg]; exact (below_size (bS4 HB.out GE166.out GE167.out GE168.out GE169.out)) : w.heap.size ≤ gb185))
          have GE185 := Aside0.mk ((by rw [hg]; exact (below_size (bS4 HB.out GE166.out GE167.out GE168.out GE169.out)) : w.heap.size ≤ gb185))
          replace HB := Aside0.mk (below_step (bS4 HB.out GE166.out GE167.out GE168.out GE169.out) hb)
          have NB166_185 := Aside0.mk (kN BK166.out hg)
          have NB185_166 := Aside0.mk (kM BK166.out hg)
          replace BK166 := Aside0.mk (kB BK166.out hb)
          have NB167_185 := Aside0.mk (kN BK167.out hg)
          have NB185_167 := Aside0.mk (kM BK167.out hg)
          replace BK167 := Aside0.mk (kB BK167.out hb)
          have NB168_185 := Aside0.mk (kN BK168.out hg)
          have NB185_168 := Aside0.mk (kM BK168.out hg)
          replace BK168 := Aside0.mk (kB BK168.out hb)
          have NB169_185 := Aside0.mk (kN BK169.out hg)
          have NB185_169 := Aside0.mk (kM BK169.out hg)
          replace BK169 := Aside0.mk (kB BK169.out hb)
          clear hb hbox hg
          refine hK.out _ _ ⟨(blk_cell BK166.out 0).trans rfl, (blk_cell BK166.out 1).trans rfl, (blk_cell BK167.out 0).trans rfl, (blk_cell BK167.out 1).trans rfl⟩ (fun hHeld => ?_)
          clear hK K
          refine norm_ (a' := ?_) ?_ ?_
          rotate_left
          ·
           show Act.put _ (some 8) _ = _
           simp only [Act.put, List.setIfInBounds_toArray, List.set_cons_zero, List.set_cons_succ, i64_w, i32_w]
           rfl
          exact norm_ (by first | (simp only [putAll, Act.put, List.setIfInBounds_toArray, List.set_cons_zero, List.set_cons_succ]; done) | (simp only [putAll, Act.put, List.setIfInBounds_toArray, List.set_cons_zero, List.set_cons_succ]; rfl)) (hJ1_3_5 (v173, v176, v179, v182, gb185) _ ⟨hHeld, (by refine VU ?_; exact Kd.V_mono HO174.out (fun _ hk => ⟨hk.1.1, ⟨hk.1.2.1, ⟨hk.1.2.2.1, ⟨hk.1.2.2.2.1, ⟨hk.1.2.2.2.2, hk.2⟩⟩⟩⟩⟩)), (by refine VU ?_; exact Kd.V_mono HO177.out (fun _ hk => ⟨hk.1.1, ⟨hk.1.2.1, ⟨hk.1.2.2.1, ⟨hk.1.2.2.2.1, ⟨hk.1.2.2.2.2, hk.2⟩⟩⟩⟩⟩)), (by refine VU ?_; exact Kd.V_mono HO180.out (fun _ hk => ⟨hk.1.1, ⟨hk.1.2.1, ⟨hk.1.2.2.1, ⟨hk.1.2.2.2.1, ⟨hk.1.2.2.2.2, hk.2⟩⟩⟩⟩⟩)), (by refine VU ?_; exact Kd.V_mono HO183.out (fun _ hk => ⟨hk.1.1, ⟨hk.1.2.1, ⟨hk.1.2.2.1, ⟨hk.1.2.2.2.1, ⟨hk.1.2.2.2.2, hk.2⟩⟩⟩⟩⟩)), (by refine VU ?_; exact Kd.V_mono HO_167000.out (fun _ hk => ⟨hk.1.1, ⟨hk.1.2.1, ⟨hk.1.2.2.1, ⟨hk.1.2.2.2.1, ⟨hk.1.2.2.2.2, hk.2⟩⟩⟩⟩⟩)), (by refine VU ?_; exact Kd.V_mono HO_167001.out (fun _ hk => ⟨hk.1.1, ⟨hk.1.2.1, ⟨hk.1.2.2.1, ⟨hk.1.2.2.2.1, ⟨hk.1.2.2.2.2, hk.2⟩⟩⟩⟩⟩)), (by refine VU ?_; exact Kd.V_mono HO_168000.out (fun _ hk => ⟨hk.1.1, ⟨hk.1.2.1, ⟨hk.1.2.2.1, ⟨hk.1.2.2.2.1, ⟨hk.1.2.2.2.2, hk.2⟩⟩⟩⟩⟩)), (by refine VU ?_; exact Kd.V_mono HO_168001.out (fun _ hk => ⟨hk.1.1, ⟨hk.1.2.1, ⟨hk.1.2.2.1, ⟨hk.1.2.2.2.1, ⟨hk.1.2.2.2.2, hk.2⟩⟩⟩⟩⟩)), (kU BK166.out), (kU BK167.out), (kU BK168.out), (kU BK169.out), (kU BK185.out), GW185.out, GE185.out, NB166_185.out, NB185_166.out, NB167_185.out, NB185_167.out, NB168_185.out, NB185_168.out, NB169_185.out, NB185_169.out, (bS5 HB.out GE166.out GE167.out GE168.out GE169.out GE185.out)⟩)
       ·
        skip
        rintro ⟨v173, v176, gb184, gb185⟩ w55 ⟨hS_, h0_, h1_, h2_, h3_, h4_, h5_, h6_, h7_, h8_, h9_, h10_, h11_, h12_, h13_, h14_, h15_, h16_, h17_, h18_, h19_, h20_, h21_, h22_, h23_, h24_, h25_, h26_, h27_, h28_, h29_, h30_, h31_, h32_, h33_, h34_⟩
        have n0_ : Aside0 (Kd.V (Kd.int .i64) 3 w55 w.heap.size (fun k_ => ((P0_0_ k_ ∨ P0_1_ k_ ∨ P1_0_ k_ ∨ P1_1_ k_) ∨ w.heap.size ≤ k_) ∧ k_ ≠ gb166 ∧ k_ ≠ gb167 ∧ k_ ≠ gb168 ∧ k_ ≠ gb169 ∧ k_ ≠ gb184 ∧ k_ ≠ gb185) v173 t172) := ⟨h0_⟩
        have n1_ : Aside0 (Kd.V (Kd.int .i64) 3 w55 w.heap.size (fun k_ => ((P0_0_ k_ ∨ P0_1_ k_ ∨ P1_0_ k_ ∨ P1_1_ k_) ∨ w.heap.size ≤ k_) ∧ k_ ≠ gb166 ∧ k_ ≠ gb167 ∧ k_ ≠ gb168 ∧ k_ ≠ gb169 ∧ k_ ≠ gb184 ∧ k_ ≠ gb185) v176 t175) := ⟨h1_⟩
        have n2_ : Aside0 (Kd.V (Kd.int .i64) 3 w55 w.heap.size (fun k_ => ((P0_0_ k_ ∨ P0_1_ k_ ∨ P1_0_ k_ ∨ P1_1_ k_) ∨ w.heap.size ≤ k_) ∧ k_ ≠ gb166 ∧ k_ ≠ gb167 ∧ k_ ≠ gb168 ∧ k_ ≠ gb169 ∧ k_ ≠ gb184 ∧ k_ ≠ gb185) (.slice A0_0 l0_0.length c0_0) l0_0) := ⟨h2_⟩
        have n3_ : Aside0 (Kd.V (Kd.int .i64) 3 w55 w.heap.size (fun k_ => ((P0_0_ k_ ∨ P0_1_ k_ ∨ P1_0_ k_ ∨ P1_1_ k_) ∨ w.heap.size ≤ k_) ∧ k_ ≠ gb166 ∧ k_ ≠ gb167 ∧ k_ ≠ gb168 ∧ k_ ≠ gb169 ∧ k_ ≠ gb184 ∧ k_ ≠ gb185) (.slice A0_1 l0_1.length c0_1) l0_1) := ⟨h3_⟩
        have n4_ : Aside0 (Kd.V (Kd.int .i64) 3 w55 w.heap.size (fun k_ => ((P0_0_ k_ ∨ P0_1_ k_ ∨ P1_0_ k_ ∨ P1_1_ k_) ∨ w.heap.size ≤ k_) ∧ k_ ≠ gb166 ∧ k_ ≠ gb167 ∧ k_ ≠ gb168 ∧ k_ ≠ gb169 ∧ k_ ≠ gb184 ∧ k_ ≠ gb185) (.slice A1_0 l1_0.length c1_0) l1_0) := ⟨h4_⟩
        have n5_ : Aside0 (Kd.V (Kd.int .i64) 3 w55 w.heap.size (fun k_ => ((P0_0_ k_ ∨ P0_1_ k_ ∨ P1_0_ k_ ∨ P1_1_ k_) ∨ w.heap.size ≤ k_) ∧ k_ ≠ gb166 ∧ k_ ≠ gb167 ∧ k_ ≠ gb168 ∧ k_ ≠ gb169 ∧ k_ ≠ gb184 ∧ k_ ≠ gb185) (.slice A1_1 l1_1.length c1_1) l1_1) := ⟨h5_⟩
        have n6_ : Aside0 (w55.heap[gb166]? = some (.cells #[.slice A0_0 l0_0.length c0_0, .slice A0_1 l0_1.length c0_1] 26 (0, 0))) := ⟨h6_⟩
        have n7_ : Aside0 (w55.heap[gb167]? = some (.cells #[.slice A1_0 l1_0.length c1_0, .slice A1_1 l1_1.length c1_1] 26 (0, 0))) := ⟨h7_⟩
        have n8_ : Aside0 (w55.heap[gb168]? = some (.cells #[.slice none 0 0, .slice none 0 0] 26 (0, 0))) := ⟨h8_⟩
        have n9_ : Aside0 (w55.heap[gb169]? = some (.cells #[.slice none 0 0, .slice none 0 0] 26 (0, 0))) := ⟨h9_⟩
        have n10_ : Aside0 (w55.heap[gb184]? = some (.cells #[.slice none 0 0, .slice none 0 0] 26 (0, 0))) := ⟨h10_⟩
        have n11_ : Aside0 (w55.heap[gb185]? = some (.cells #[.slice none 0 0, .slice none 0 0] 26 (0, 0))) := ⟨h11_⟩
        have n12_ : Aside0 (w.heap.size ≤ gb184) := ⟨h12_⟩
        have n13_ : Aside0 (w.heap.size ≤ gb184) := ⟨h13_⟩
        have n14_ : Aside0 (gb166 ≠ gb184) := ⟨h14_⟩
        have n15_ : Aside0 (gb184 ≠ gb166) := ⟨h15_⟩
        have n16_ : Aside0 (gb167 ≠ gb184) := ⟨h16_⟩
        have n17_ : Aside0 (gb184 ≠ gb167) := ⟨h17_⟩
        have n18_ : Aside0 (gb168 ≠ gb184) := ⟨h18_⟩
        have n19_ : Aside0 (gb184 ≠ gb168) := ⟨h19_⟩
        have n20_ : Aside0 (gb169 ≠ gb184) := ⟨h20_⟩
        have n21_ : Aside0 (gb184 ≠ gb169) := ⟨h21_⟩
        have n22_ : Aside0 (gb185 ≠ gb184) := ⟨h22_⟩
        have n23_ : Aside0 (gb184 ≠ gb185) := ⟨h23_⟩
        have n24_ : Aside0 (w.heap.size ≤ gb185) := ⟨h24_⟩
        have n25_ : Aside0 (w.heap.size ≤ gb185) := ⟨h25_⟩
        have n26_ : Aside0 (gb166 ≠ gb185) := ⟨h26_⟩
        have n27_ : Aside0 (gb185 ≠ gb166) := ⟨h27_⟩
        have n28_ : Aside0 (gb167 ≠ gb185) := ⟨h28_⟩
        have n29_ : Aside0 (gb185 ≠ gb167) := ⟨h29_⟩
        have n30_ : Aside0 (gb168 ≠ gb185) := ⟨h30_⟩
        have n31_ : Aside0 (gb185 ≠ gb168) := ⟨h31_⟩
        have n32_ : Aside0 (gb169 ≠ gb185) := ⟨h32_⟩
        have n33_ : Aside0 (gb185 ≠ gb169) := ⟨h33_⟩
        have n34_ : Aside0 (Below w.heap.size w w55) := ⟨h34_⟩
        clear HO_167000 HO_167001 HO_168000 HO_168001 BK166 BK167 BK168 BK169 HB
        clear h0_ h1_ h2_ h3_ h4_ h5_ h6_ h7_ h8_ h9_ h10_ h11_ h12_ h13_ h14_ h15_ h16_ h17_ h18_ h19_ h20_ h21_ h22_ h23_ h24_ h25_ h26_ h27_ h28_ h29_ h30_ h31_ h32_ h33_ h34_
        have HO174 := n0_
        have HO177 := n1_
        have HO_167000 := n2_
        have HO_167001 := n3_
        have HO_168000 := n4_
        have HO_168001 := n5_
        have BK166 := n6_
        have BK167 := n7_
        have BK168 := n8_
        have BK169 := n9_
        have BK184 := n10_
        have BK185 := n11_
        have GW184 := n12_
        have GE184 := n13_
        have NB166_184 := n14_
        have NB184_166 := n15_
        have NB167_184 := n16_
        have NB184_167 := n17_
        have NB168_184 := n18_
        have NB184_168 := n19_
        have NB169_184 := n20_
        have NB184_169 := n21_
        have NB185_184 := n22_
        have NB184_185 := n23_
        have GW185 := n24_
        have GE185 := n25_
        have NB166_185 := n26_
        have NB185_166 := n27_
        have NB167_185 := n28_
        have NB185_167 := n29_
        have NB168_185 := n30_
        have NB185_168 := n31_
        have NB169_185 := n32_
        have NB185_169 := n33_
        have HB := n34_
        clear n0_ n1_ n2_ n3_ n4_ n5_ n6_ n7_ n8_ n9_ n10_ n11_ n12_ n13_ n14_ n15_ n16_ n17_ n18_ n19_ n20_ n21_ n22_ n23_ n24_ n25_ n26_ n27_ n28_ n29_ n30_ n31_ n32_ n33_ n34_
        have hHeld : w55.cell? ⟨gb166, 0, none⟩ = some (.slice A0_0 l0_0.length c0_0) ∧ w55.cell? ⟨gb166, 1, none⟩ = some (.slice A0_1 l0_1.length c0_1) ∧ w55.cell? ⟨gb167, 0, none⟩ = some (.slice A1_0 l1_0.length c1_0) ∧ w55.cell? ⟨gb167, 1, none⟩ = some (.slice A1_1 l1_1.length c1_1) := hS_
        refine norm_ (a' := ?_) ?_ ?_
        rotate_left
        ·
         simp only [putAll, Act.put, List.setIfInBounds_toArray, List.set_cons_zero, List.set_cons_succ]
         rfl
        refine one_ (i := 3) (N := some 23) #[true, true, true, true, true, true, false, false] rfl rfl (one_of HT_.out (by kernel_rfl)) (by decide) (fun K hK => ?_)
        refine goes_ Try.func100 (by kernel_rfl) rfl #[.agg #[.slice A1_0 l1_0.length c1_0, .slice A1_1 l1_1.length c1_1]] (by rfl) rfl rfl lU ?_
        with_reducible refine (spec_l5Vector.calls (fun k_ => (((P0_0_ k_ ∨ P0_1_ k_ ∨ P1_0_ k_ ∨ P1_1_ k_) ∨ w.heap.size ≤ k_) ∧ (k_ ≠ gb166 ∧ (k_ ≠ gb167 ∧ (k_ ≠ gb168 ∧ (k_ ≠ gb169 ∧ (k_ ≠ gb184 ∧ k_ ≠ gb185))))))) _ _ l1_0 (fun k_ => (((P0_0_ k_ ∨ P0_1_ k_ ∨ P1_0_ k_ ∨ P1_1_ k_) ∨ w.heap.size ≤ k_) ∧ (k_ ≠ gb166 ∧ (k_ ≠ gb167 ∧ (k_ ≠ gb168 ∧ (k_ ≠ gb169 ∧ (k_ ≠ gb184 ∧ k_ ≠ gb185))))))) _ _ l1_1 t178 t181 _ ?side1 ?side2 A38.out).mono ?_
        (case side1 => exact HO_168000.out)
        (case side2 => exact HO_168001.out)
        rintro e w56 ⟨v179, v182, rfl, ho0, ho1, hb⟩
        refine ⟨_, rfl, ?_⟩
        replace HO_167000 := Aside0.mk (Kd.V_below (VU HO_167000.out) hb)
        replace HO_167001 := Aside0.mk (Kd.V_below (VU HO_167001.out) hb)
        replace HO_168000 := Aside0.mk (Kd.V_below (VU HO_168000.out) hb)
        replace HO_168001 := Aside0.mk (Kd.V_below (VU HO_168001.out) hb)
        replace HO174 := Aside0.mk (Kd.V_below (VU HO174.out) hb)
        replace HO177 := Aside0.mk (Kd.V_below (VU HO177.out) hb)
        have HO180 := Aside0.mk (Kd.V_lower (Kd.V_mono (ok' := fun k_ => ((P0_0_ k_ ∨ P0_1_ k_ ∨ P1_0_ k_ ∨ P1_1_ k_) ∨ w.heap.size ≤ k_) ∧ k_ ≠ gb166 ∧ k_ ≠ gb167 ∧ k_ ≠ gb168 ∧ k_ ≠ gb169 ∧ k_ ≠ gb184 ∧ k_ ≠ gb185) ho0 (fun k_ hk_ => ⟨Or.elim hk_ (fun hs_ => Or.elim hs_ (fun hs_ => hs_.1) (fun hs_ => hs_.1)) (fun hn_ => (.inr (Nat.le_trans (below_size (bS6 HB.out GE166.out GE167.out GE168.out GE169.out GE184.out GE185.out)) hn_))), Or.elim hk_ (fun hs_ => Or.elim hs_ (fun hs_ => hs_.2.1) (fun hs_ => hs_.2.1)) (fun hn_ => (Kd.freshB (g := gb166) (o := .cells #[.slice A0_0 l0_0.length c0_0, .slice A0_1 l0_1.length c0_1] 26 (0, 0)) (kU BK166.out) k_ hn_)), Or.elim hk_ (fun hs_ => Or.elim hs_ (fun hs_ => hs_.2.2.1) (fun hs_ => hs_.2.2.1)) (fun hn_ => (Kd.freshB (g := gb167) (o := .cells #[.slice A1_0 l1_0.length c1_0, .slice A1_1 l1_1.length c1_1] 26 (0, 0)) (kU BK167.out) k_ hn_)), Or.elim hk_ (fun hs_ => Or.elim hs_ (fun hs_ => hs_.2.2.2.1) (fun hs_ => hs_.2.2.2.1)) (fun hn_ => (Kd.freshB (g := gb168) (o := .cells #[.slice none 0 0, .slice none 0 0] 26 (0, 0)) (kU BK168.out) k_ hn_)), Or.elim hk_ (fun hs_ => Or.elim hs_ (fun hs_ => hs_.2.2.2.2.1) (fun hs_ => hs_.2.2.2.2.1)) (fun hn_ => (Kd.freshB (g := gb169) (o := .cells #[.slice none 0 0, .slice none 0 0] 26 (0, 0)) (kU BK169.out) k_ hn_)), Or.elim hk_ (fun hs_ => Or.elim hs_ (fun hs_ => hs_.2.2.2.2.2.1) (fun hs_ => hs_.2.2.2.2.2.1)) (fun hn_ => (Kd.freshB (g := gb184) (o := .cells #[.slice none 0 0, .slice none 0 0] 26 (0, 0)) (kU BK184.out) k_ hn_)), Or.elim hk_ (fun hs_ => Or.elim hs_ (fun hs_ => hs_.2.2.2.2.2.2) (fun hs_ => hs_.2.2.2.2.2.2)) (fun hn_ => (Kd.freshB (g := gb185) (o := .cells #[.slice none 0 0, .slice none 0 0] 26 (0, 0)) (kU BK185.out) k_ hn_))⟩)) (below_size (bS6 HB.out GE166.out GE167.out GE168.out GE169.out GE184.out GE185.out)))
        have HO183 := Aside0.mk (Kd.V_lower (Kd.V_mono (ok' := fun k_ => ((P0_0_ k_ ∨ P0_1_ k_ ∨ P1_0_ k_ ∨ P1_1_ k_) ∨ w.heap.size ≤ k_) ∧ k_ ≠ gb166 ∧ k_ ≠ gb167 ∧ k_ ≠ gb168 ∧ k_ ≠ gb169 ∧ k_ ≠ gb184 ∧ k_ ≠ gb185) ho1 (fun k_ hk_ => ⟨Or.elim hk_ (fun hs_ => Or.elim hs_ (fun hs_ => hs_.1) (fun hs_ => hs_.1)) (fun hn_ => (.inr (Nat.le_trans (below_size (bS6 HB.out GE166.out GE167.out GE168.out GE169.out GE184.out GE185.out)) hn_))), Or.elim hk_ (fun hs_ => Or.elim hs_ (fun hs_ => hs_.2.1) (fun hs_ => hs_.2.1)) (fun hn_ => (Kd.freshB (g := gb166) (o := .cells #[.slice A0_0 l0_0.length c0_0, .slice A0_1 l0_1.length c0_1] 26 (0, 0)) (kU BK166.out) k_ hn_)), Or.elim hk_ (fun hs_ => Or.elim hs_ (fun hs_ => hs_.2.2.1) (fun hs_ => hs_.2.2.1)) (fun hn_ => (Kd.freshB (g := gb167) (o := .cells #[.slice A1_0 l1_0.length c1_0, .slice A1_1 l1_1.length c1_1] 26 (0, 0)) (kU BK167.out) k_ hn_)), Or.elim hk_ (fun hs_ => Or.elim hs_ (fun hs_ => hs_.2.2.2.1) (fun hs_ => hs_.2.2.2.1)) (fun hn_ => (Kd.freshB (g := gb168) (o := .cells #[.slice none 0 0, .slice none 0 0] 26 (0, 0)) (kU BK168.out) k_ hn_)), Or.elim hk_ (fun hs_ => Or.elim hs_ (fun hs_ => hs_.2.2.2.2.1) (fun hs_ => hs_.2.2.2.2.1)) (fun hn_ => (Kd.freshB (g := gb169) (o := .cells #[.slice none 0 0, .slice none 0 0] 26 (0, 0)) (kU BK169.out) k_ hn_)), Or.elim hk_ (fun hs_ => Or.elim hs_ (fun hs_ => hs_.2.2.2.2.2.1) (fun hs_ => hs_.2.2.2.2.2.1)) (fun hn_ => (Kd.freshB (g := gb184) (o := .cells #[.slice none 0 0, .slice none 0 0] 26 (0, 0)) (kU BK184.out) k_ hn_)), Or.elim hk_ (fun hs_ => Or.elim hs_ (fun hs_ => hs_.2.2.2.2.2.2) (fun hs_ => hs_.2.2.2.2.2.2)) (fun hn_ => (Kd.freshB (g := gb185) (o := .cells #[.slice none 0 0, .slice none 0 0] 26 (0, 0)) (kU BK185.out) k_ hn_))⟩)) (below_size (bS6 HB.out GE166.out GE167.out GE168.out GE169.out GE184.out GE185.out)))
        replace BK166 := Aside0.mk (kB BK166.out hb)
        replace BK167 := Aside0.mk (kB BK167.out hb)
        replace BK168 := Aside0.mk (kB BK168.out hb)
        replace BK169 := Aside0.mk (kB BK169.out hb)
        replace BK184 := Aside0.mk (kB BK184.out hb)
        replace BK185 := Aside0.mk (kB BK185.out hb)
        replace HB := Aside0.mk (below_step (bS6 HB.out GE166.out GE167.out GE168.out GE169.out GE184.out GE185.out) hb)
        (try clear hb)
        (try clear hb2)
        (try clear hk)
        (try clear hi)
        (try clear ho0)
        (try clear ho1)
        refine hK.out _ _ ⟨(blk_cell BK166.out 0).trans rfl, (blk_cell BK166.out 1).trans rfl, (blk_cell BK167.out 0).trans rfl, (blk_cell BK167.out 1).trans rfl⟩ (fun hHeld => ?_)
        clear hK K
        refine norm_ (a' := ?_) ?_ ?_
        rotate_left
        ·
         show Act.put _ (some 23) _ = _
         simp only [Act.put, List.setIfInBounds_toArray, List.set_cons_zero, List.set_cons_succ, i64_w, i32_w]
         rfl
        exact norm_ (by first | (simp only [putAll, Act.put, List.setIfInBounds_toArray, List.set_cons_zero, List.set_cons_succ]; done) | (simp only [putAll, Act.put, List.setIfInBounds_toArray, List.set_cons_zero, List.set_cons_succ]; rfl)) (hJ1_3_4_5 (v173, v176, v179, v182, gb184, gb185) _ ⟨hHeld, (VU HO174.out), (VU HO177.out), (VU HO180.out), (VU HO183.out), (VU HO_167000.out), (VU HO_167001.out), (VU HO_168000.out), (VU HO_168001.out), (kU BK166.out), (kU BK167.out), (kU BK168.out), (kU BK169.out), (kU BK184.out), (kU BK185.out), GW184.out, GE184.out, NB166_184.out, NB184_166.out, NB167_184.out, NB184_167.out, NB168_184.out, NB184_168.out, NB169_184.out, NB184_169.out, NB185_184.out, NB184_185.out, GW185.out, GE185.out, NB166_185.out, NB185_166.out, NB167_185.out, NB185_167.out, NB168_185.out, NB185_168.out, NB169_185.out, NB185_169.out, (bS6 HB.out GE166.out GE167.out GE168.out GE169.out GE184.out GE185.out)⟩)
      ·
       skip
       rintro ⟨v173, v176, v179, v182, gb185⟩ w55 ⟨hS_, h0_, h1_, h2_, h3_, h4_, h5_, h6_, h7_, h8_, h9_, h10_, h11_, h12_, h13_, h14_, h15_, h16_, h17_, h18_, h19_, h20_, h21_, h22_, h23_⟩
       have n0_ : Aside0 (Kd.V (Kd.int .i64) 3 w55 w.heap.size (fun k_ => ((P0_0_ k_ ∨ P0_1_ k_ ∨ P1_0_ k_ ∨ P1_1_ k_) ∨ w.heap.size ≤ k_) ∧ k_ ≠ gb166 ∧ k_ ≠ gb167 ∧ k_ ≠ gb168 ∧ k_ ≠ gb169 ∧ k_ ≠ gb185) v173 t172) := ⟨h0_⟩
       have n1_ : Aside0 (Kd.V (Kd.int .i64) 3 w55 w.heap.size (fun k_ => ((P0_0_ k_ ∨ P0_1_ k_ ∨ P1_0_ k_ ∨ P1_1_ k_) ∨ w.heap.size ≤ k_) ∧ k_ ≠ gb166 ∧ k_ ≠ gb167 ∧ k_ ≠ gb168 ∧ k_ ≠ gb169 ∧ k_ ≠ gb185) v176 t175) := ⟨h1_⟩
       have n2_ : Aside0 (Kd.V (Kd.int .i64) 3 w55 w.heap.size (fun k_ => ((P0_0_ k_ ∨ P0_1_ k_ ∨ P1_0_ k_ ∨ P1_1_ k_) ∨ w.heap.size ≤ k_) ∧ k_ ≠ gb166 ∧ k_ ≠ gb167 ∧ k_ ≠ gb168 ∧ k_ ≠ gb169 ∧ k_ ≠ gb185) v179 t178) := ⟨h2_⟩
       have n3_ : Aside0 (Kd.V (Kd.int .i64) 3 w55 w.heap.size (fun k_ => ((P0_0_ k_ ∨ P0_1_ k_ ∨ P1_0_ k_ ∨ P1_1_ k_) ∨ w.heap.size ≤ k_) ∧ k_ ≠ gb166 ∧ k_ ≠ gb167 ∧ k_ ≠ gb168 ∧ k_ ≠ gb169 ∧ k_ ≠ gb185) v182 t181) := ⟨h3_⟩
       have n4_ : Aside0 (Kd.V (Kd.int .i64) 3 w55 w.heap.size (fun k_ => ((P0_0_ k_ ∨ P0_1_ k_ ∨ P1_0_ k_ ∨ P1_1_ k_) ∨ w.heap.size ≤ k_) ∧ k_ ≠ gb166 ∧ k_ ≠ gb167 ∧ k_ ≠ gb168 ∧ k_ ≠ gb169 ∧ k_ ≠ gb185) (.slice A0_0 l0_0.length c0_0) l0_0) := ⟨h4_⟩
       have n5_ : Aside0 (Kd.V (Kd.int .i64) 3 w55 w.heap.size (fun k_ => ((P0_0_ k_ ∨ P0_1_ k_ ∨ P1_0_ k_ ∨ P1_1_ k_) ∨ w.heap.size ≤ k_) ∧ k_ ≠ gb166 ∧ k_ ≠ gb167 ∧ k_ ≠ gb168 ∧ k_ ≠ gb169 ∧ k_ ≠ gb185) (.slice A0_1 l0_1.length c0_1) l0_1) := ⟨h5_⟩
       have n6_ : Aside0 (Kd.V (Kd.int .i64) 3 w55 w.heap.size (fun k_ => ((P0_0_ k_ ∨ P0_1_ k_ ∨ P1_0_ k_ ∨ P1_1_ k_) ∨ w.heap.size ≤ k_) ∧ k_ ≠ gb166 ∧ k_ ≠ gb167 ∧ k_ ≠ gb168 ∧ k_ ≠ gb169 ∧ k_ ≠ gb185) (.slice A1_0 l1_0.length c1_0) l1_0) := ⟨h6_⟩
       have n7_ : Aside0 (Kd.V (Kd.int .i64) 3 w55 w.heap.size (fun k_ => ((P0_0_ k_ ∨ P0_1_ k_ ∨ P1_0_ k_ ∨ P1_1_ k_) ∨ w.heap.size ≤ k_) ∧ k_ ≠ gb166 ∧ k_ ≠ gb167 ∧ k_ ≠ gb168 ∧ k_ ≠ gb169 ∧ k_ ≠ gb185) (.slice A1_1 l1_1.length c1_1) l1_1) := ⟨h7_⟩
       have n8_ : Aside0 (w55.heap[gb166]? = some (.cells #[.slice A0_0 l0_0.length c0_0, .slice A0_1 l0_1.length c0_1] 26 (0, 0))) := ⟨h8_⟩
       have n9_ : Aside0 (w55.heap[gb167]? = some (.cells #[.slice A1_0 l1_0.length c1_0, .slice A1_1 l1_1.length c1_1] 26 (0, 0))) := ⟨h9_⟩
       have n10_ : Aside0 (w55.heap[gb168]? = some (.cells #[.slice none 0 0, .slice none 0 0] 26 (0, 0))) := ⟨h10_⟩
       have n11_ : Aside0 (w55.heap[gb169]? = some (.cells #[.slice none 0 0, .slice none 0 0] 26 (0, 0))) := ⟨h11_⟩
       have n12_ : Aside0 (w55.heap[gb185]? = some (.cells #[.slice none 0 0, .slice none 0 0] 26 (0, 0))) := ⟨h12_⟩
       have n13_ : Aside0 (w.heap.size ≤ gb185) := ⟨h13_⟩
       have n14_ : Aside0 (w.heap.size ≤ gb185) := ⟨h14_⟩
       have n15_ : Aside0 (gb166 ≠ gb185) := ⟨h15_⟩
       have n16_ : Aside0 (gb185 ≠ gb166) := ⟨h16_⟩
       have n17_ : Aside0 (gb167 ≠ gb185) := ⟨h17_⟩
       have n18_ : Aside0 (gb185 ≠ gb167) := ⟨h18_⟩
       have n19_ : Aside0 (gb168 ≠ gb185) := ⟨h19_⟩
       have n20_ : Aside0 (gb185 ≠ gb168) := ⟨h20_⟩
       have n21_ : Aside0 (gb169 ≠ gb185) := ⟨h21_⟩
       have n22_ : Aside0 (gb185 ≠ gb169) := ⟨h22_⟩
       have n23_ : Aside0 (Below w.heap.size w w55) := ⟨h23_⟩
       clear HO_167000 HO_167001 HO_168000 HO_168001 BK166 BK167 BK168 BK169 HB
       clear h0_ h1_ h2_ h3_ h4_ h5_ h6_ h7_ h8_ h9_ h10_ h11_ h12_ h13_ h14_ h15_ h16_ h17_ h18_ h19_ h20_ h21_ h22_ h23_
       have HO174 := n0_
       have HO177 := n1_
       have HO180 := n2_
       have HO183 := n3_
       have HO_167000 := n4_
       have HO_167001 := n5_
       have HO_168000 := n6_
       have HO_168001 := n7_
       have BK166 := n8_
       have BK167 := n9_
       have BK168 := n10_
       have BK169 := n11_
       have BK185 := n12_
       have GW185 := n13_
       have GE185 := n14_
       have NB166_185 := n15_
       have NB185_166 := n16_
       have NB167_185 := n17_
       have NB185_167 := n18_
       have NB168_185 := n19_
       have NB185_168 := n20_
       have NB169_185 := n21_
       have NB185_169 := n22_
       have HB := n23_
       clear n0_ n1_ n2_ n3_ n4_ n5_ n6_ n7_ n8_ n9_ n10_ n11_ n12_ n13_ n14_ n15_ n16_ n17_ n18_ n19_ n20_ n21_ n22_ n23_
       have hHeld : w55.cell? ⟨gb166, 0, none⟩ = some (.slice A0_0 l0_0.length c0_0) ∧ w55.cell? ⟨gb166, 1, none⟩ = some (.slice A0_1 l0_1.length c0_1) ∧ w55.cell? ⟨gb167, 0, none⟩ = some (.slice A1_0 l1_0.length c1_0) ∧ w55.cell? ⟨gb167, 1, none⟩ = some (.slice A1_1 l1_1.length c1_1) := hS_
       refine norm_ (a' := ?_) ?_ ?_
       rotate_left
       ·
        simp only [putAll, Act.put, List.setIfInBounds_toArray, List.set_cons_zero, List.set_cons_succ]
        rfl
       refine one_ (i := 4) (N := some 7) #[true, true, true, true, true, true, false, false] rfl rfl (one_of HT_.out (by kernel_rfl)) (by decide) (fun K hK => ?_)
       refine box_step ?hg (N := 7) ?hd (cs := #[.slice none 0 0, .slice none 0 0]) (t := 26) ?hr ?_; (case hd => rfl); (case hg => rfl); (case hr => first | (go_simp; done) | (go_simp; rfl))
       intro gb184 hg w56 hbox hb
       replace HO_167000 := Aside0.mk (Kd.V_below (Kd.V_elderB (VU HO_167000.out) gb184 (Nat.le_of_eq hg.symm)) hb)
       replace HO_167001 := Aside0.mk (Kd.V_below (Kd.V_elderB (VU HO_167001.out) gb184 (Nat.le_of_eq hg.symm)) hb)
       replace HO_168000 := Aside0.mk (Kd.V_below (Kd.V_elderB (VU HO_168000.out) gb184 (Nat.le_of_eq hg.symm)) hb)
       replace HO_168001 := Aside0.mk (Kd.V_below (Kd.V_elderB (VU HO_168001.out) gb184 (Nat.le_of_eq hg.symm)) hb)
       replace HO174 := Aside0.mk (Kd.V_below (Kd.V_elderB (VU HO174.out) gb184 (Nat.le_of_eq hg.symm)) hb)
       replace HO177 := Aside0.mk (Kd.V_below (Kd.V_elderB (VU HO177.out) gb184 (Nat.le_of_eq hg.symm)) hb)
       replace HO180 := Aside0.mk (Kd.V_below (Kd.V_elderB (VU HO180.out) gb184 (Nat.le_of_eq hg.symm)) hb)
       replace HO183 := Aside0.mk (Kd.V_below (Kd.V_elderB (VU HO183.out) gb184 (Nat.le_of_eq hg.symm)) hb)
       have BK184 := Aside0.mk (hbox)
       have GW184 := Aside0.mk ((by rw [hg]; exact (below_size (bS5 HB.out GE166.out GE167.out GE168.out GE169.out GE185.out)) : w.heap.size ≤ gb184))
       have GE184 := Aside0.mk ((by rw [hg]; exact (below_size (bS5 HB.out GE166.out GE167.out GE168.out GE169.out GE185.out)) : w.heap.size ≤ gb184))
       replace HB := Aside0.mk (below_step (bS5 HB.out GE166.out GE167.out GE168.out GE169.out GE185.out) hb)
       have NB166_184 := Aside0.mk (kN BK166.out hg)
       have NB184_166 := Aside0.mk (kM BK166.out hg)
       replace BK166 := Aside0.mk (kB BK166.out hb)
       have NB167_184 := Aside0.mk (kN BK167.out hg)
       have NB184_167 := Aside0.mk (kM BK167.out hg)
       replace BK167 := Aside0.mk (kB BK167.out hb)
       have NB168_184 := Aside0.mk (kN BK168.out hg)
       have NB184_168 := Aside0.mk (kM BK168.out hg)
       replace BK168 := Aside0.mk (kB BK168.out hb)
       have NB169_184 := Aside0.mk (kN BK169.out hg)
       have NB184_169 := Aside0.mk (kM BK169.out hg)
       replace BK169 := Aside0.mk (kB BK169.out hb)
       have NB185_184 := Aside0.mk (kN BK185.out hg)
       have NB184_185 := Aside0.mk (kM BK185.out hg)
       replace BK185 := Aside0.mk (kB BK185.out hb)
       clear hb hbox hg
       refine hK.out _ _ ⟨(blk_cell BK166.out 0).trans rfl, (blk_cell BK166.out 1).trans rfl, (blk_cell BK167.out 0).trans rfl, (blk_cell BK167.out 1).trans rfl⟩ (fun hHeld => ?_)
       clear hK K
       refine norm_ (a' := ?_) ?_ ?_
       rotate_left
       ·
        show Act.put _ (some 7) _ = _
        simp only [Act.put, List.setIfInBounds_toArray, List.set_cons_zero, List.set_cons_succ, i64_w, i32_w]
        rfl
       exact norm_ (by first | (simp only [putAll, Act.put, List.setIfInBounds_toArray, List.set_cons_zero, List.set_cons_succ]; done) | (simp only [putAll, Act.put, List.setIfInBounds_toArray, List.set_cons_zero, List.set_cons_succ]; rfl)) (hJ1_3_4_5 (v173, v176, v179, v182, gb184, gb185) _ ⟨hHeld, (by refine VU ?_; exact Kd.V_mono HO174.out (fun _ hk => ⟨hk.1.1, ⟨hk.1.2.1, ⟨hk.1.2.2.1, ⟨hk.1.2.2.2.1, ⟨hk.1.2.2.2.2.1, ⟨hk.2, hk.1.2.2.2.2.2⟩⟩⟩⟩⟩⟩)), (by refine VU ?_; exact Kd.V_mono HO177.out (fun _ hk => ⟨hk.1.1, ⟨hk.1.2.1, ⟨hk.1.2.2.1, ⟨hk.1.2.2.2.1, ⟨hk.1.2.2.2.2.1, ⟨hk.2, hk.1.2.2.2.2.2⟩⟩⟩⟩⟩⟩)), (by refine VU ?_; exact Kd.V_mono HO180.out (fun _ hk => ⟨hk.1.1, ⟨hk.1.2.1, ⟨hk.1.2.2.1, ⟨hk.1.2.2.2.1, ⟨hk.1.2.2.2.2.1, ⟨hk.2, hk.1.2.2.2.2.2⟩⟩⟩⟩⟩⟩)), (by refine VU ?_; exact Kd.V_mono HO183.out (fun _ hk => ⟨hk.1.1, ⟨hk.1.2.1, ⟨hk.1.2.2.1, ⟨hk.1.2.2.2.1, ⟨hk.1.2.2.2.2.1, ⟨hk.2, hk.1.2.2.2.2.2⟩⟩⟩⟩⟩⟩)), (by refine VU ?_; exact Kd.V_mono HO_167000.out (fun _ hk => ⟨hk.1.1, ⟨hk.1.2.1, ⟨hk.1.2.2.1, ⟨hk.1.2.2.2.1, ⟨hk.1.2.2.2.2.1, ⟨hk.2, hk.1.2.2.2.2.2⟩⟩⟩⟩⟩⟩)), (by refine VU ?_; exact Kd.V_mono HO_167001.out (fun _ hk => ⟨hk.1.1, ⟨hk.1.2.1, ⟨hk.1.2.2.1, ⟨hk.1.2.2.2.1, ⟨hk.1.2.2.2.2.1, ⟨hk.2, hk.1.2.2.2.2.2⟩⟩⟩⟩⟩⟩)), (by refine VU ?_; exact Kd.V_mono HO_168000.out (fun _ hk => ⟨hk.1.1, ⟨hk.1.2.1, ⟨hk.1.2.2.1, ⟨hk.1.2.2.2.1, ⟨hk.1.2.2.2.2.1, ⟨hk.2, hk.1.2.2.2.2.2⟩⟩⟩⟩⟩⟩)), (by refine VU ?_; exact Kd.V_mono HO_168001.out (fun _ hk => ⟨hk.1.1, ⟨hk.1.2.1, ⟨hk.1.2.2.1, ⟨hk.1.2.2.2.1, ⟨hk.1.2.2.2.2.1, ⟨hk.2, hk.1.2.2.2.2.2⟩⟩⟩⟩⟩⟩)), (kU BK166.out), (kU BK167.out), (kU BK168.out), (kU BK169.out), (kU BK184.out), (kU BK185.out), GW184.out, GE184.out, NB166_184.out, NB184_166.out, NB167_184.out, NB184_167.out, NB168_184.out, NB184_168.out, NB169_184.out, NB184_169.out, NB185_184.out, NB184_185.out, GW185.out, GE185.out, NB166_185.out, NB185_166.out, NB167_185.out, NB185_167.out, NB168_185.out, NB185_168.out, NB169_185.out, NB185_169.out, (bS6 HB.out GE166.out GE167.out GE168.out GE169.out GE185.out GE184.out)⟩)
     ·
      skip
      rintro ⟨v173, v176, v179, v182, gb184⟩ w55 ⟨hS_, h0_, h1_, h2_, h3_, h4_, h5_, h6_, h7_, h8_, h9_, h10_, h11_, h12_, h13_, h14_, h15_, h16_, h17_, h18_, h19_, h20_, h21_, h22_, h23_⟩
      have n0_ : Aside0 (Kd.V (Kd.int .i64) 3 w55 w.heap.size (fun k_ => ((P0_0_ k_ ∨ P0_1_ k_ ∨ P1_0_ k_ ∨ P1_1_ k_) ∨ w.heap.size ≤ k_) ∧ k_ ≠ gb166 ∧ k_ ≠ gb167 ∧ k_ ≠ gb168 ∧ k_ ≠ gb169 ∧ k_ ≠ gb184) v173 t172) := ⟨h0_⟩
      have n1_ : Aside0 (Kd.V (Kd.int .i64) 3 w55 w.heap.size (fun k_ => ((P0_0_ k_ ∨ P0_1_ k_ ∨ P1_0_ k_ ∨ P1_1_ k_) ∨ w.heap.size ≤ k_) ∧ k_ ≠ gb166 ∧ k_ ≠ gb167 ∧ k_ ≠ gb168 ∧ k_ ≠ gb169 ∧ k_ ≠ gb184) v176 t175) := ⟨h1_⟩
      have n2_ : Aside0 (Kd.V (Kd.int .i64) 3 w55 w.heap.size (fun k_ => ((P0_0_ k_ ∨ P0_1_ k_ ∨ P1_0_ k_ ∨ P1_1_ k_) ∨ w.heap.size ≤ k_) ∧ k_ ≠ gb166 ∧ k_ ≠ gb167 ∧ k_ ≠ gb168 ∧ k_ ≠ gb169 ∧ k_ ≠ gb184) v179 t178) := ⟨h2_⟩
      have n3_ : Aside0 (Kd.V (Kd.int .i64) 3 w55 w.heap.size (fun k_ => ((P0_0_ k_ ∨ P0_1_ k_ ∨ P1_0_ k_ ∨ P1_1_ k_) ∨ w.heap.size ≤ k_) ∧ k_ ≠ gb166 ∧ k_ ≠ gb167 ∧ k_ ≠ gb168 ∧ k_ ≠ gb169 ∧ k_ ≠ gb184) v182 t181) := ⟨h3_⟩
      have n4_ : Aside0 (Kd.V (Kd.int .i64) 3 w55 w.heap.size (fun k_ => ((P0_0_ k_ ∨ P0_1_ k_ ∨ P1_0_ k_ ∨ P1_1_ k_) ∨ w.heap.size ≤ k_) ∧ k_ ≠ gb166 ∧ k_ ≠ gb167 ∧ k_ ≠ gb168 ∧ k_ ≠ gb169 ∧ k_ ≠ gb184) (.slice A0_0 l0_0.length c0_0) l0_0) := ⟨h4_⟩
      have n5_ : Aside0 (Kd.V (Kd.int .i64) 3 w55 w.heap.size (fun k_ => ((P0_0_ k_ ∨ P0_1_ k_ ∨ P1_0_ k_ ∨ P1_1_ k_) ∨ w.heap.size ≤ k_) ∧ k_ ≠ gb166 ∧ k_ ≠ gb167 ∧ k_ ≠ gb168 ∧ k_ ≠ gb169 ∧ k_ ≠ gb184) (.slice A0_1 l0_1.length c0_1) l0_1) := ⟨h5_⟩
      have n6_ : Aside0 (Kd.V (Kd.int .i64) 3 w55 w.heap.size (fun k_ => ((P0_0_ k_ ∨ P0_1_ k_ ∨ P1_0_ k_ ∨ P1_1_ k_) ∨ w.heap.size ≤ k_) ∧ k_ ≠ gb166 ∧ k_ ≠ gb167 ∧ k_ ≠ gb168 ∧ k_ ≠ gb169 ∧ k_ ≠ gb184) (.slice A1_0 l1_0.length c1_0) l1_0) := ⟨h6_⟩
      have n7_ : Aside0 (Kd.V (Kd.int .i64) 3 w55 w.heap.size (fun k_ => ((P0_0_ k_ ∨ P0_1_ k_ ∨ P1_0_ k_ ∨ P1_1_ k_) ∨ w.heap.size ≤ k_) ∧ k_ ≠ gb166 ∧ k_ ≠ gb167 ∧ k_ ≠ gb168 ∧ k_ ≠ gb169 ∧ k_ ≠ gb184) (.slice A1_1 l1_1.length c1_1) l1_1) := ⟨h7_⟩
      have n8_ : Aside0 (w55.heap[gb166]? = some (.cells #[.slice A0_0 l0_0.length c0_0, .slice A0_1 l0_1.length c0_1] 26 (0, 0))) := ⟨h8_⟩
      have n9_ : Aside0 (w55.heap[gb167]? = some (.cells #[.slice A1_0 l1_0.length c1_0, .slice A1_1 l1_1.length c1_1] 26 (0, 0))) := ⟨h9_⟩
      have n10_ : Aside0 (w55.heap[gb168]? = some (.cells #[.slice none 0 0, .slice none 0 0] 26 (0, 0))) := ⟨h10_⟩
      have n11_ : Aside0 (w55.heap[gb169]? = some (.cells #[.slice none 0 0, .slice none 0 0] 26 (0, 0))) := ⟨h11_⟩
      have n12_ : Aside0 (w55.heap[gb184]? = some (.cells #[.slice none 0 0, .slice none 0 0] 26 (0, 0))) := ⟨h12_⟩
      have n13_ : Aside0 (w.heap.size ≤ gb184) := ⟨h13_⟩
      have n14_ : Aside0 (w.heap.size ≤ gb184) := ⟨h14_⟩
      have n15_ : Aside0 (gb166 ≠ gb184) := ⟨h15_⟩
      have n16_ : Aside0 (gb184 ≠ gb166) := ⟨h16_⟩
      have n17_ : Aside0 (gb167 ≠ gb184) := ⟨h17_⟩
      have n18_ : Aside0 (gb184 ≠ gb167) := ⟨h18_⟩
      have n19_ : Aside0 (gb168 ≠ gb184) := ⟨h19_⟩
      have n20_ : Aside0 (gb184 ≠ gb168) := ⟨h20_⟩
      have n21_ : Aside0 (gb169 ≠ gb184) := ⟨h21_⟩
      have n22_ : Aside0 (gb184 ≠ gb169) := ⟨h22_⟩
      have n23_ : Aside0 (Below w.heap.size w w55) := ⟨h23_⟩
      clear HO_167000 HO_167001 HO_168000 HO_168001 BK166 BK167 BK168 BK169 HB
      clear h0_ h1_ h2_ h3_ h4_ h5_ h6_ h7_ h8_ h9_ h10_ h11_ h12_ h13_ h14_ h15_ h16_ h17_ h18_ h19_ h20_ h21_ h22_ h23_
      have HO174 := n0_
      have HO177 := n1_
      have HO180 := n2_
      have HO183 := n3_
      have HO_167000 := n4_
      have HO_167001 := n5_
      have HO_168000 := n6_
      have HO_168001 := n7_
      have BK166 := n8_
      have BK167 := n9_
      have BK168 := n10_
      have BK169 := n11_
      have BK184 := n12_
      have GW184 := n13_
      have GE184 := n14_
      have NB166_184 := n15_
      have NB184_166 := n16_
      have NB167_184 := n17_
      have NB184_167 := n18_
      have NB168_184 := n19_
      have NB184_168 := n20_
      have NB169_184 := n21_
      have NB184_169 := n22_
      have HB := n23_
      clear n0_ n1_ n2_ n3_ n4_ n5_ n6_ n7_ n8_ n9_ n10_ n11_ n12_ n13_ n14_ n15_ n16_ n17_ n18_ n19_ n20_ n21_ n22_ n23_
      have hHeld : w55.cell? ⟨gb166, 0, none⟩ = some (.slice A0_0 l0_0.length c0_0) ∧ w55.cell? ⟨gb166, 1, none⟩ = some (.slice A0_1 l0_1.length c0_1) ∧ w55.cell? ⟨gb167, 0, none⟩ = some (.slice A1_0 l1_0.length c1_0) ∧ w55.cell? ⟨gb167, 1, none⟩ = some (.slice A1_1 l1_1.length c1_1) := hS_
      refine norm_ (a' := ?_) ?_ ?_
      rotate_left
      ·
       simp only [putAll, Act.put, List.setIfInBounds_toArray, List.set_cons_zero, List.set_cons_succ]
       rfl
      refine one_ (i := 5) (N := some 8) #[true, true, true, true, true, true, false, false] rfl rfl (one_of HT_.out (by kernel_rfl)) (by decide) (fun K hK => ?_)
      refine box_step ?hg (N := 8) ?hd (cs := #[.slice none 0 0, .slice none 0 0]) (t := 26) ?hr ?_; (case hd => rfl); (case hg => rfl); (case hr => first | (go_simp; done) | (go_simp; rfl))
      intro gb185 hg w56 hbox hb
      replace HO_167000 := Aside0.mk (Kd.V_below (Kd.V_elderB (VU HO_167000.out) gb185 (Nat.le_of_eq hg.symm)) hb)
      replace HO_167001 := Aside0.mk (Kd.V_below (Kd.V_elderB (VU HO_167001.out) gb185 (Nat.le_of_eq hg.symm)) hb)
      replace HO_168000 := Aside0.mk (Kd.V_below (Kd.V_elderB (VU HO_168000.out) gb185 (Nat.le_of_eq hg.symm)) hb)
      replace HO_168001 := Aside0.mk (Kd.V_below (Kd.V_elderB (VU HO_168001.out) gb185 (Nat.le_of_eq hg.symm)) hb)
      replace HO174 := Aside0.mk (Kd.V_below (Kd.V_elderB (VU HO174.out) gb185 (Nat.le_of_eq hg.symm)) hb)
      replace HO177 := Aside0.mk (Kd.V_below (Kd.V_elderB (VU HO177.out) gb185 (Nat.le_of_eq hg.symm)) hb)
      replace HO180 := Aside0.mk (Kd.V_below (Kd.V_elderB (VU HO180.out) gb185 (Nat.le_of_eq hg.symm)) hb)
      replace HO183 := Aside0.mk (Kd.V_below (Kd.V_elderB (VU HO183.out) gb185 (Nat.le_of_eq hg.symm)) hb)
      have BK185 := Aside0.mk (hbox)
      have GW185 := Aside0.mk ((by rw [hg]; exact (below_size (bS5 HB.out GE166.out GE167.out GE168.out GE169.out GE184.out)) : w.heap.size ≤ gb185))
      have GE185 := Aside0.mk ((by rw [hg]; exact (below_size (bS5 HB.out GE166.out GE167.out GE168.out GE169.out GE184.out)) : w.heap.size ≤ gb185))
      replace HB := Aside0.mk (below_step (bS5 HB.out GE166.out GE167.out GE168.out GE169.out GE184.out) hb)
      have NB166_185 := Aside0.mk (kN BK166.out hg)
      have NB185_166 := Aside0.mk (kM BK166.out hg)
      replace BK166 := Aside0.mk (kB BK166.out hb)
      have NB167_185 := Aside0.mk (kN BK167.out hg)
      have NB185_167 := Aside0.mk (kM BK167.out hg)
      replace BK167 := Aside0.mk (kB BK167.out hb)
      have NB168_185 := Aside0.mk (kN BK168.out hg)
      have NB185_168 := Aside0.mk (kM BK168.out hg)
      replace BK168 := Aside0.mk (kB BK168.out hb)
      have NB169_185 := Aside0.mk (kN BK169.out hg)
      have NB185_169 := Aside0.mk (kM BK169.out hg)
      replace BK169 := Aside0.mk (kB BK169.out hb)
      have NB184_185 := Aside0.mk (kN BK184.out hg)
      have NB185_184 := Aside0.mk (kM BK184.out hg)
      replace BK184 := Aside0.mk (kB BK184.out hb)
      clear hb hbox hg
      refine hK.out _ _ ⟨(blk_cell BK166.out 0).trans rfl, (blk_cell BK166.out 1).trans rfl, (blk_cell BK167.out 0).trans rfl, (blk_cell BK167.out 1).trans rfl⟩ (fun hHeld => ?_)
      clear hK K
      refine norm_ (a' := ?_) ?_ ?_
      rotate_left
      ·
       show Act.put _ (some 8) _ = _
       simp only [Act.put, List.setIfInBounds_toArray, List.set_cons_zero, List.set_cons_succ, i64_w, i32_w]
       rfl
      exact norm_ (by first | (simp only [putAll, Act.put, List.setIfInBounds_toArray, List.set_cons_zero, List.set_cons_succ]; done) | (simp only [putAll, Act.put, List.setIfInBounds_toArray, List.set_cons_zero, List.set_cons_succ]; rfl)) (hJ1_3_4_5 (v173, v176, v179, v182, gb184, gb185) _ ⟨hHeld, (by refine VU ?_; exact Kd.V_mono HO174.out (fun _ hk => ⟨hk.1.1, ⟨hk.1.2.1, ⟨hk.1.2.2.1, ⟨hk.1.2.2.2.1, ⟨hk.1.2.2.2.2.1, ⟨hk.1.2.2.2.2.2, hk.2⟩⟩⟩⟩⟩⟩)), (by refine VU ?_; exact Kd.V_mono HO177.out (fun _ hk => ⟨hk.1.1, ⟨hk.1.2.1, ⟨hk.1.2.2.1, ⟨hk.1.2.2.2.1, ⟨hk.1.2.2.2.2.1, ⟨hk.1.2.2.2.2.2, hk.2⟩⟩⟩⟩⟩⟩)), (by refine VU ?_; exact Kd.V_mono HO180.out (fun _ hk => ⟨hk.1.1, ⟨hk.1.2.1, ⟨hk.1.2.2.1, ⟨hk.1.2.2.2.1, ⟨hk.1.2.2.2.2.1, ⟨hk.1.2.2.2.2.2, hk.2⟩⟩⟩⟩⟩⟩)), (by refine VU ?_; exact Kd.V_mono HO183.out (fun _ hk => ⟨hk.1.1, ⟨hk.1.2.1, ⟨hk.1.2.2.1, ⟨hk.1.2.2.2.1, ⟨hk.1.2.2.2.2.1, ⟨hk.1.2.2.2.2.2, hk.2⟩⟩⟩⟩⟩⟩)), (by refine VU ?_; exact Kd.V_mono HO_167000.out (fun _ hk => ⟨hk.1.1, ⟨hk.1.2.1, ⟨hk.1.2.2.1, ⟨hk.1.2.2.2.1, ⟨hk.1.2.2.2.2.1, ⟨hk.1.2.2.2.2.2, hk.2⟩⟩⟩⟩⟩⟩)), (by refine VU ?_; exact Kd.V_mono HO_167001.out (fun _ hk => ⟨hk.1.1, ⟨hk.1.2.1, ⟨hk.1.2.2.1, ⟨hk.1.2.2.2.1, ⟨hk.1.2.2.2.2.1, ⟨hk.1.2.2.2.2.2, hk.2⟩⟩⟩⟩⟩⟩)), (by refine VU ?_; exact Kd.V_mono HO_168000.out (fun _ hk => ⟨hk.1.1, ⟨hk.1.2.1, ⟨hk.1.2.2.1, ⟨hk.1.2.2.2.1, ⟨hk.1.2.2.2.2.1, ⟨hk.1.2.2.2.2.2, hk.2⟩⟩⟩⟩⟩⟩)), (by refine VU ?_; exact Kd.V_mono HO_168001.out (fun _ hk => ⟨hk.1.1, ⟨hk.1.2.1, ⟨hk.1.2.2.1, ⟨hk.1.2.2.2.1, ⟨hk.1.2.2.2.2.1, ⟨hk.1.2.2.2.2.2, hk.2⟩⟩⟩⟩⟩⟩)), (kU BK166.out), (kU BK167.out), (kU BK168.out), (kU BK169.out), (kU BK184.out), (kU BK185.out), GW184.out, GE184.out, NB166_184.out, NB184_166.out, NB167_184.out, NB184_167.out, NB168_184.out, NB184_168.out, NB169_184.out, NB184_169.out, NB185_184.out, NB184_185.out, GW185.out, GE185.out, NB166_185.out, NB185_166.out, NB167_185.out, NB185_167.out, NB168_185.out, NB185_168.out, NB169_185.out, NB185_169.out, (bS6 HB.out GE166.out GE167.out GE168.out GE169.out GE184.out GE185.out)⟩)
    rintro ⟨v173, v176, v179, v182, gb184, gb185⟩ w56 ⟨hS_, h0_, h1_, h2_, h3_, h4_, h5_, h6_, h7_, h8_, h9_, h10_, h11_, h12_, h13_, h14_, h15_, h16_, h17_, h18_, h19_, h20_, h21_, h22_, h23_, h24_, h25_, h26_, h27_, h28_, h29_, h30_, h31_, h32_, h33_, h34_, h35_, h36_⟩
    have n0_ : Aside0 (Kd.V (Kd.int .i64) 3 w56 w.heap.size (fun k_ => ((P0_0_ k_ ∨ P0_1_ k_ ∨ P1_0_ k_ ∨ P1_1_ k_) ∨ w.heap.size ≤ k_) ∧ k_ ≠ gb166 ∧ k_ ≠ gb167 ∧ k_ ≠ gb168 ∧ k_ ≠ gb169 ∧ k_ ≠ gb184 ∧ k_ ≠ gb185) v173 t172) := ⟨h0_⟩
    have n1_ : Aside0 (Kd.V (Kd.int .i64) 3 w56 w.heap.size (fun k_ => ((P0_0_ k_ ∨ P0_1_ k_ ∨ P1_0_ k_ ∨ P1_1_ k_) ∨ w.heap.size ≤ k_) ∧ k_ ≠ gb166 ∧ k_ ≠ gb167 ∧ k_ ≠ gb168 ∧ k_ ≠ gb169 ∧ k_ ≠ gb184 ∧ k_ ≠ gb185) v176 t175) := ⟨h1_⟩
    have n2_ : Aside0 (Kd.V (Kd.int .i64) 3 w56 w.heap.size (fun k_ => ((P0_0_ k_ ∨ P0_1_ k_ ∨ P1_0_ k_ ∨ P1_1_ k_) ∨ w.heap.size ≤ k_) ∧ k_ ≠ gb166 ∧ k_ ≠ gb167 ∧ k_ ≠ gb168 ∧ k_ ≠ gb169 ∧ k_ ≠ gb184 ∧ k_ ≠ gb185) v179 t178) := ⟨h2_⟩
    have n3_ : Aside0 (Kd.V (Kd.int .i64) 3 w56 w.heap.size (fun k_ => ((P0_0_ k_ ∨ P0_1_ k_ ∨ P1_0_ k_ ∨ P1_1_ k_) ∨ w.heap.size ≤ k_) ∧ k_ ≠ gb166 ∧ k_ ≠ gb167 ∧ k_ ≠ gb168 ∧ k_ ≠ gb169 ∧ k_ ≠ gb184 ∧ k_ ≠ gb185) v182 t181) := ⟨h3_⟩
    have n4_ : Aside0 (Kd.V (Kd.int .i64) 3 w56 w.heap.size (fun k_ => ((P0_0_ k_ ∨ P0_1_ k_ ∨ P1_0_ k_ ∨ P1_1_ k_) ∨ w.heap.size ≤ k_) ∧ k_ ≠ gb166 ∧ k_ ≠ gb167 ∧ k_ ≠ gb168 ∧ k_ ≠ gb169 ∧ k_ ≠ gb184 ∧ k_ ≠ gb185) (.slice A0_0 l0_0.length c0_0) l0_0) := ⟨h4_⟩
    have n5_ : Aside0 (Kd.V (Kd.int .i64) 3 w56 w.heap.size (fun k_ => ((P0_0_ k_ ∨ P0_1_ k_ ∨ P1_0_ k_ ∨ P1_1_ k_) ∨ w.heap.size ≤ k_) ∧ k_ ≠ gb166 ∧ k_ ≠ gb167 ∧ k_ ≠ gb168 ∧ k_ ≠ gb169 ∧ k_ ≠ gb184 ∧ k_ ≠ gb185) (.slice A0_1 l0_1.length c0_1) l0_1) := ⟨h5_⟩
    have n6_ : Aside0 (Kd.V (Kd.int .i64) 3 w56 w.heap.size (fun k_ => ((P0_0_ k_ ∨ P0_1_ k_ ∨ P1_0_ k_ ∨ P1_1_ k_) ∨ w.heap.size ≤ k_) ∧ k_ ≠ gb166 ∧ k_ ≠ gb167 ∧ k_ ≠ gb168 ∧ k_ ≠ gb169 ∧ k_ ≠ gb184 ∧ k_ ≠ gb185) (.slice A1_0 l1_0.length c1_0) l1_0) := ⟨h6_⟩
    have n7_ : Aside0 (Kd.V (Kd.int .i64) 3 w56 w.heap.size (fun k_ => ((P0_0_ k_ ∨ P0_1_ k_ ∨ P1_0_ k_ ∨ P1_1_ k_) ∨ w.heap.size ≤ k_) ∧ k_ ≠ gb166 ∧ k_ ≠ gb167 ∧ k_ ≠ gb168 ∧ k_ ≠ gb169 ∧ k_ ≠ gb184 ∧ k_ ≠ gb185) (.slice A1_1 l1_1.length c1_1) l1_1) := ⟨h7_⟩
    have n8_ : Aside0 (w56.heap[gb166]? = some (.cells #[.slice A0_0 l0_0.length c0_0, .slice A0_1 l0_1.length c0_1] 26 (0, 0))) := ⟨h8_⟩
    have n9_ : Aside0 (w56.heap[gb167]? = some (.cells #[.slice A1_0 l1_0.length c1_0, .slice A1_1 l1_1.length c1_1] 26 (0, 0))) := ⟨h9_⟩
    have n10_ : Aside0 (w56.heap[gb168]? = some (.cells #[.slice none 0 0, .slice none 0 0] 26 (0, 0))) := ⟨h10_⟩
    have n11_ : Aside0 (w56.heap[gb169]? = some (.cells #[.slice none 0 0, .slice none 0 0] 26 (0, 0))) := ⟨h11_⟩
    have n12_ : Aside0 (w56.heap[gb184]? = some (.cells #[.slice none 0 0, .slice none 0 0] 26 (0, 0))) := ⟨h12_⟩
    have n13_ : Aside0 (w56.heap[gb185]? = some (.cells #[.slice none 0 0, .slice none 0 0] 26 (0, 0))) := ⟨h13_⟩
    have n14_ : Aside0 (w.heap.size ≤ gb184) := ⟨h14_⟩
    have n15_ : Aside0 (w.heap.size ≤ gb184) := ⟨h15_⟩
    have n16_ : Aside0 (gb166 ≠ gb184) := ⟨h16_⟩
    have n17_ : Aside0 (gb184 ≠ gb166) := ⟨h17_⟩
    have n18_ : Aside0 (gb167 ≠ gb184) := ⟨h18_⟩
    have n19_ : Aside0 (gb184 ≠ gb167) := ⟨h19_⟩
    have n20_ : Aside0 (gb168 ≠ gb184) := ⟨h20_⟩
    have n21_ : Aside0 (gb184 ≠ gb168) := ⟨h21_⟩
    have n22_ : Aside0 (gb169 ≠ gb184) := ⟨h22_⟩
    have n23_ : Aside0 (gb184 ≠ gb169) := ⟨h23_⟩
    have n24_ : Aside0 (gb185 ≠ gb184) := ⟨h24_⟩
    have n25_ : Aside0 (gb184 ≠ gb185) := ⟨h25_⟩
    have n26_ : Aside0 (w.heap.size ≤ gb185) := ⟨h26_⟩
    have n27_ : Aside0 (w.heap.size ≤ gb185) := ⟨h27_⟩
    have n28_ : Aside0 (gb166 ≠ gb185) := ⟨h28_⟩
    have n29_ : Aside0 (gb185 ≠ gb166) := ⟨h29_⟩
    have n30_ : Aside0 (gb167 ≠ gb185) := ⟨h30_⟩
    have n31_ : Aside0 (gb185 ≠ gb167) := ⟨h31_⟩
    have n32_ : Aside0 (gb168 ≠ gb185) := ⟨h32_⟩
    have n33_ : Aside0 (gb185 ≠ gb168) := ⟨h33_⟩
    have n34_ : Aside0 (gb169 ≠ gb185) := ⟨h34_⟩
    have n35_ : Aside0 (gb185 ≠ gb169) := ⟨h35_⟩
    have n36_ : Aside0 (Below w.heap.size w w56) := ⟨h36_⟩
    clear HO_167000 HO_167001 HO_168000 HO_168001 BK166 BK167 BK168 BK169 HB
    clear h0_ h1_ h2_ h3_ h4_ h5_ h6_ h7_ h8_ h9_ h10_ h11_ h12_ h13_ h14_ h15_ h16_ h17_ h18_ h19_ h20_ h21_ h22_ h23_ h24_ h25_ h26_ h27_ h28_ h29_ h30_ h31_ h32_ h33_ h34_ h35_ h36_
    have HO174 := n0_
    have HO177 := n1_
    have HO180 := n2_
    have HO183 := n3_
    have HO_167000 := n4_
    have HO_167001 := n5_
    have HO_168000 := n6_
    have HO_168001 := n7_
    have BK166 := n8_
    have BK167 := n9_
    have BK168 := n10_
    have BK169 := n11_
    have BK184 := n12_
    have BK185 := n13_
    have GW184 := n14_
    have GE184 := n15_
    have NB166_184 := n16_
    have NB184_166 := n17_
    have NB167_184 := n18_
    have NB184_167 := n19_
    have NB168_184 := n20_
    have NB184_168 := n21_
    have NB169_184 := n22_
    have NB184_169 := n23_
    have NB185_184 := n24_
    have NB184_185 := n25_
    have GW185 := n26_
    have GE185 := n27_
    have NB166_185 := n28_
    have NB185_166 := n29_
    have NB167_185 := n30_
    have NB185_167 := n31_
    have NB168_185 := n32_
    have NB185_168 := n33_
    have NB169_185 := n34_
    have NB185_169 := n35_
    have HB := n36_
    clear n0_ n1_ n2_ n3_ n4_ n5_ n6_ n7_ n8_ n9_ n10_ n11_ n12_ n13_ n14_ n15_ n16_ n17_ n18_ n19_ n20_ n21_ n22_ n23_ n24_ n25_ n26_ n27_ n28_ n29_ n30_ n31_ n32_ n33_ n34_ n35_ n36_
    have hHeld : w56.cell? ⟨gb166, 0, none⟩ = some (.slice A0_0 l0_0.length c0_0) ∧ w56.cell? ⟨gb166, 1, none⟩ = some (.slice A0_1 l0_1.length c0_1) ∧ w56.cell? ⟨gb167, 0, none⟩ = some (.slice A1_0 l1_0.length c1_0) ∧ w56.cell? ⟨gb167, 1, none⟩ = some (.slice A1_1 l1_1.length c1_1) := hS_
    obtain ⟨Ao57, co57, eo57⟩ := Kd.V_slice HO174.out
    (first | subst eo57 | (injection eo57 with f1_ f2_ f3_; have f4_ := f1_.symm; have f5_ := f3_.symm; clear f1_ f2_ f3_; subst f4_; subst f5_))
    obtain ⟨Ao59, co59, eo59⟩ := Kd.V_slice HO177.out
    (first | subst eo59 | (injection eo59 with f1_ f2_ f3_; have f4_ := f1_.symm; have f5_ := f3_.symm; clear f1_ f2_ f3_; subst f4_; subst f5_))
    obtain ⟨Ao61, co61, eo61⟩ := Kd.V_slice HO180.out
    (first | subst eo61 | (injection eo61 with f1_ f2_ f3_; have f4_ := f1_.symm; have f5_ := f3_.symm; clear f1_ f2_ f3_; subst f4_; subst f5_))
    obtain ⟨Ao63, co63, eo63⟩ := Kd.V_slice HO183.out
    (first | subst eo63 | (injection eo63 with f1_ f2_ f3_; have f4_ := f1_.symm; have f5_ := f3_.symm; clear f1_ f2_ f3_; subst f4_; subst f5_))
    refine norm_ (a' := ?_) ?_ ?_
    rotate_left
    ·
     simp only [putAll, Act.put, List.setIfInBounds_toArray, List.set_cons_zero, List.set_cons_succ]
     rfl
    refine one_ (i := 6) (N := none) #[true, true, true, true, true, true, true, false] rfl rfl (one_of HT_.out (by kernel_rfl)) (by decide) (fun K hK => ?_)
    have hs58 : w56.cell? ⟨gb184, 0, none⟩ = some (.slice none 0 0) := (blk_cell BK184.out 0).trans rfl
    have hfs58 := blk_frozen BK184.out 0
    have hns58_0 := NB166_184.out
    have hns58_1 := NB167_184.out
    have hns58_2 := NB168_184.out
    have hns58_3 := NB169_184.out
    have hns58_5 := NB185_184.out
    have hms58_0 := NB184_166.out
    have hms58_1 := NB184_167.out
    have hms58_2 := NB184_168.out
    have hms58_3 := NB184_169.out
    have hms58_5 := NB184_185.out
    have hs60 : w56.cell? ⟨gb184, 1, none⟩ = some (.slice none 0 0) := (blk_cell BK184.out 1).trans rfl
    have hfs60 := blk_frozen BK184.out 1
    have hns60_0 := NB166_184.out
    have hns60_1 := NB167_184.out
    have hns60_2 := NB168_184.out
    have hns60_3 := NB169_184.out
    have hns60_5 := NB185_184.out
    have hms60_0 := NB184_166.out
    have hms60_1 := NB184_167.out
    have hms60_2 := NB184_168.out
    have hms60_3 := NB184_169.out
    have hms60_5 := NB184_185.out
    refine skip_ (w1 := ?_) (by rfl) rfl ?_ ?_
    rotate_left
    ·
     go_simp
     rfl
    refine hK.out _ _ ⟨((cell_far (p := ⟨gb184, _, none⟩) NB166_184.out _).trans (((cell_far (p := ⟨gb184, _, none⟩) NB166_184.out _).trans (hHeld.1)))), ((cell_far (p := ⟨gb184, _, none⟩) NB166_184.out _).trans (((cell_far (p := ⟨gb184, _, none⟩) NB166_184.out _).trans (hHeld.2.1)))), ((cell_far (p := ⟨gb184, _, none⟩) NB167_184.out _).trans (((cell_far (p := ⟨gb184, _, none⟩) NB167_184.out _).trans (hHeld.2.2.1)))), ((cell_far (p := ⟨gb184, _, none⟩) NB167_184.out _).trans (((cell_far (p := ⟨gb184, _, none⟩) NB167_184.out _).trans (hHeld.2.2.2))))⟩ (fun hHeld => ?_)
    clear hK K
    refine one_ (i := 7) (N := none) #[true, true, true, true, true, true, true, true] rfl rfl (one_of HT_.out (by kernel_rfl)) (by decide) (fun K hK => ?_)
    have hs62 : w56.cell? ⟨gb185, 0, none⟩ = some (.slice none 0 0) := (blk_cell BK185.out 0).trans rfl
    have hfs62 := blk_frozen BK185.out 0
    have hns62_0 := NB166_185.out
    have hns62_1 := NB167_185.out
    have hns62_2 := NB168_185.out
    have hns62_3 := NB169_185.out
    have hns62_4 := NB184_185.out
    have hms62_0 := NB185_166.out
    have hms62_1 := NB185_167.out
    have hms62_2 := NB185_168.out
    have hms62_3 := NB185_169.out
    have hms62_4 := NB185_184.out
    have hs64 : w56.cell? ⟨gb185, 1, none⟩ = some (.slice none 0 0) := (blk_cell BK185.out 1).trans rfl
    have hfs64 := blk_frozen BK185.out 1
    have hns64_0 := NB166_185.out
    have hns64_1 := NB167_185.out
    have hns64_2 := NB168_185.out
    have hns64_3 := NB169_185.out
    have hns64_4 := NB184_185.out
    have hms64_0 := NB185_166.out
    have hms64_1 := NB185_167.out
    have hms64_2 := NB185_168.out
    have hms64_3 := NB185_169.out
    have hms64_4 := NB185_184.out
    refine skip_ (w1 := ?_) (by rfl) rfl ?_ ?_
    rotate_left
    ·
     go_simp
     rfl
    refine hK.out _ _ ⟨((cell_far (p := ⟨gb185, _, none⟩) NB166_185.out _).trans (((cell_far (p := ⟨gb185, _, none⟩) NB166_185.out _).trans (hHeld.1)))), ((cell_far (p := ⟨gb185, _, none⟩) NB166_185.out _).trans (((cell_far (p := ⟨gb185, _, none⟩) NB166_185.out _).trans (hHeld.2.1)))), ((cell_far (p := ⟨gb185, _, none⟩) NB167_185.out _).trans (((cell_far (p := ⟨gb185, _, none⟩) NB167_185.out _).trans (hHeld.2.2.1)))), ((cell_far (p := ⟨gb185, _, none⟩) NB167_185.out _).trans (((cell_far (p := ⟨gb185, _, none⟩) NB167_185.out _).trans (hHeld.2.2.2))))⟩ (fun hHeld => ?_)
    clear hK K
    refine done_ (done_of HT_.out (by kernel_rfl)) ?_
    have hnb65 := NB184_166.out
    have hnc65 := NB166_184.out
    have hnb66 := NB184_167.out
    have hnc66 := NB167_184.out
    have hnb67 := NB184_168.out
    have hnc67 := NB168_184.out
    have hnb68 := NB184_169.out
    have hnc68 := NB169_184.out
    have hnb69 := NB184_185.out
    have hnc69 := NB185_184.out
    have hcz70_0 : w56.cell? ⟨gb184, 0, none⟩ = some (.slice none 0 0) := (blk_cell BK184.out 0).trans rfl
    have hcz70_1 : w56.cell? ⟨gb184, 1, none⟩ = some (.slice none 0 0) := (blk_cell BK184.out 1).trans rfl
    have hfz70_0 := blk_frozen BK184.out 0
    have hfz70_1 := blk_frozen BK184.out 1
    have hnb71 := NB185_166.out
    have hnc71 := NB166_185.out
    have hnb72 := NB185_167.out
    have hnc72 := NB167_185.out
    have hnb73 := NB185_168.out
    have hnc73 := NB168_185.out
    have hnb74 := NB185_169.out
    have hnc74 := NB169_185.out
    have hcz75_0 : w56.cell? ⟨gb185, 0, none⟩ = some (.slice none 0 0) := (blk_cell BK185.out 0).trans rfl
    have hcz75_1 : w56.cell? ⟨gb185, 1, none⟩ = some (.slice none 0 0) := (blk_cell BK185.out 1).trans rfl
    have hfz75_0 := blk_frozen BK185.out 0
    have hfz75_1 := blk_frozen BK185.out 1
    by_cases c39 : (t172.length : Int) = (t178.length : Int)
    ·
     rw [if_pos c39] at H
     have c39b0 : ((t172.length : Int) == (t178.length : Int)) = true := beq_iff_eq.mpr c39
     have c39b1 : ((t172.length : Int) != (t178.length : Int)) = false := bne_eq_false_iff_eq.mpr c39
     have c39b2 : (t172.length == t178.length) = true := by first | simpa using c39 | (simp at c39 ⊢; omega)
     clear c39
     by_cases c40 : 1 ≤ (t172.length : Int)
     ·
      rw [if_pos c40] at H
      have c40b0 := eq_true c40
      have c40b1 : decide (1 ≤ (t172.length : Int)) = true := decide_eq_true c40
      clear c40
      obtain ⟨y186, hy186⟩ : ∃ y_ : List Int, y_ = (t172.drop 1) := ⟨_, rfl⟩
      replace H : (if 1 ≤ (t178.length : Int) then ((spec_l2Same.f kj2 y186 (t178.drop 1)).bind fun t196 => (if t196 = true then (if 0 < (t172.length : Int) then (if 0 < (t178.length : Int) then ((some (([wrap64 ((rd t172 0) + (rd t178 0))] : List Int) : List Int)).bind fun y199 => ((some (t172.drop 1 : List Int)).bind fun y202 => (if y199.length + y202.length < 17592186044416 then ((some (([] : List Int) : List Int)).bind fun y210 => (if y210.length + t175.length < 17592186044416 then ((some (y210 ++ t175 : List Int)).bind fun y213 => (if y213.length + t181.length < 17592186044416 then ((spec_l5Right.f kj2 (y199 ++ y202) (y213 ++ t181)).bind fun bt219 => (some (bt219.1, bt219.2.1, bt219.2.2))) else (none))) else (none))) else (none)))) else (none)) else (none)) else (some (([] : List Int), ([] : List Int), 3)))) else (none)) = some (r1, r2, r3) := by first | (rw [hy186]; with_reducible exact H) | (have H2_ := (Option.bind_some _ _).symm.trans H; rw [hy186]; with_reducible exact H2_) | (have H2_ := (Option.bind_some _ _).symm.trans H; with_reducible exact H2_) | with_reducible exact H | (rw [hy186]; exact H) | exact H
      have Ny186 := Aside0.mk hy186
      clear hy186
      by_cases c41 : 1 ≤ (t178.length : Int)
      ·
       rw [if_pos c41] at H
       have c41b0 := eq_true c41
       have c41b1 : decide (1 ≤ (t178.length : Int)) = true := decide_eq_true c41
       clear c41
       obtain ⟨y191, hy191⟩ : ∃ y_ : List Int, y_ = (t178.drop 1) := ⟨_, rfl⟩
       replace H : ((spec_l2Same.f kj2 y186 y191).bind fun t196 => (if t196 = true then (if 0 < (t172.length : Int) then (if 0 < (t178.length : Int) then ((some (([wrap64 ((rd t172 0) + (rd t178 0))] : List Int) : List Int)).bind fun y199 => ((some (t172.drop 1 : List Int)).bind fun y202 => (if y199.length + y202.length < 17592186044416 then ((some (([] : List Int) : List Int)).bind fun y210 => (if y210.length + t175.length < 17592186044416 then ((some (y210 ++ t175 : List Int)).bind fun y213 => (if y213.length + t181.length < 17592186044416 then ((spec_l5Right.f kj2 (y199 ++ y202) (y213 ++ t181)).bind fun bt219 => (some (bt219.1, bt219.2.1, bt219.2.2))) else (none))) else (none))) else (none)))) else (none)) else (none)) else (some (([] : List Int), ([] : List Int), 3)))) = some (r1, r2, r3) := by first | (rw [hy191]; with_reducible exact H) | (have H2_ := (Option.bind_some _ _).symm.trans H; rw [hy191]; with_reducible exact H2_) | (have H2_ := (Option.bind_some _ _).symm.trans H; with_reducible exact H2_) | with_reducible exact H | (rw [hy191]; exact H) | exact H
       have Ny191 := Aside0.mk hy191
       clear hy191
       replace H := Option.bind_eq_some_iff.mp H
       obtain ⟨t196, A420, H⟩ := H
       replace H : (if t196 = true then (if 0 < (t172.length : Int) then (if 0 < (t178.length : Int) then ((some (([wrap64 ((rd t172 0) + (rd t178 0))] : List Int) : List Int)).bind fun y199 => ((some (t172.drop 1 : List Int)).bind fun y202 => (if y199.length + y202.length < 17592186044416 then ((some (([] : List Int) : List Int)).bind fun y210 => (if y210.length + t175.length < 17592186044416 then ((some (y210 ++ t175 : List Int)).bind fun y213 => (if y213.length + t181.length < 17592186044416 then ((spec_l5Right.f kj2 (y199 ++ y202) (y213 ++ t181)).bind fun bt219 => (some (bt219.1, bt219.2.1, bt219.2.2))) else (none))) else (none))) else (none)))) else (none)) else (none)) else (some (([] : List Int), ([] : List Int), 3))) = some (r1, r2, r3) := H
       have A42 := Aside0.mk A420
       clear A420
       by_cases c43 : t196 = true
       ·
        subst c43
        have H1 : (if 0 < (t172.length : Int) then (if 0 < (t178.length : Int) then ((some (([wrap64 ((rd t172 0) + (rd t178 0))] : List Int) : List Int)).bind fun y199 => ((some (t172.drop 1 : List Int)).bind fun y202 => (if y199.length + y202.length < 17592186044416 then ((some (([] : List Int) : List Int)).bind fun y210 => (if y210.length + t175.length < 17592186044416 then ((some (y210 ++ t175 : List Int)).bind fun y213 => (if y213.length + t181.length < 17592186044416 then ((spec_l5Right.f kj2 (y199 ++ y202) (y213 ++ t181)).bind fun bt219 => (some (bt219.1, bt219.2.1, bt219.2.2))) else (none))) else (none))) else (none)))) else (none)) else (none)) = some (r1, r2, r3) := by rw [if_pos rfl] at H; exact H
        clear H
        have H := H1
        clear H1
        by_cases c44 : 0 < (t172.length : Int)
        ·
         rw [if_pos c44] at H
         have c44b0 : decide (0 < (t172.length : Int)) = true := decide_eq_true c44
         have c44b1 : decide (0 < t172.length) = true := decide_eq_true (by omega)
         clear c44
         by_cases c45 : 0 < (t178.length : Int)
         ·
          rw [if_pos c45] at H
          have c45b0 : decide (0 < (t178.length : Int)) = true := decide_eq_true c45
          have c45b1 : decide (0 < t178.length) = true := decide_eq_true (by omega)
          clear c45
          obtain ⟨y199, hy199⟩ : ∃ y_ : List Int, y_ = (([wrap64 ((rd t172 0) + (rd t178 0))] : List Int)) := ⟨_, rfl⟩
          replace H : ((some (t172.drop 1 : List Int)).bind fun y202 => (if y199.length + y202.length < 17592186044416 then ((some (([] : List Int) : List Int)).bind fun y210 => (if y210.length + t175.length < 17592186044416 then ((some (y210 ++ t175 : List Int)).bind fun y213 => (if y213.length + t181.length < 17592186044416 then ((spec_l5Right.f kj2 (y199 ++ y202) (y213 ++ t181)).bind fun bt219 => (some (bt219.1, bt219.2.1, bt219.2.2))) else (none))) else (none))) else (none))) = some (r1, r2, r3) := by first | (rw [hy199]; with_reducible exact H) | (have H2_ := (Option.bind_some _ _).symm.trans H; rw [hy199]; with_reducible exact H2_) | (have H2_ := (Option.bind_some _ _).symm.trans H; with_reducible exact H2_) | with_reducible exact H | (rw [hy199]; exact H) | exact H
          have Ny199 := Aside0.mk hy199
          clear hy199
          have c46b0 := eq_true (of_decide_eq_true (by first | (with_reducible assumption) | assumption) : 1 ≤ (t172.length : Int))
          obtain ⟨y202, hy202⟩ : ∃ y_ : List Int, y_ = (t172.drop 1) := ⟨_, rfl⟩
          replace H : (if y199.length + y202.length < 17592186044416 then ((some (([] : List Int) : List Int)).bind fun y210 => (if y210.length + t175.length < 17592186044416 then ((some (y210 ++ t175 : List Int)).bind fun y213 => (if y213.length + t181.length < 17592186044416 then ((spec_l5Right.f kj2 (y199 ++ y202) (y213 ++ t181)).bind fun bt219 => (some (bt219.1, bt219.2.1, bt219.2.2))) else (none))) else (none))) else (none)) = some (r1, r2, r3) := by first | (rw [hy202]; with_reducible exact H) | (have H2_ := (Option.bind_some _ _).symm.trans H; rw [hy202]; with_reducible exact H2_) | (have H2_ := (Option.bind_some _ _).symm.trans H; with_reducible exact H2_) | with_reducible exact H | (rw [hy202]; exact H) | exact H
          have Ny202 := Aside0.mk hy202
          clear hy202
          by_cases c47 : y199.length + y202.length < 17592186044416
          ·
           rw [if_pos c47] at H
           have LMc47 := Aside0.mk c47
           clear c47
           obtain ⟨y207, hy207⟩ : ∃ y_ : List Int, y_ = (y199 ++ y202) := ⟨_, rfl⟩
           replace H : ((some (([] : List Int) : List Int)).bind fun y210 => (if y210.length + t175.length < 17592186044416 then ((some (y210 ++ t175 : List Int)).bind fun y213 => (if y213.length + t181.length < 17592186044416 then ((spec_l5Right.f kj2 y207 (y213 ++ t181)).bind fun bt219 => (some (bt219.1, bt219.2.1, bt219.2.2))) else (none))) else (none))) = some (r1, r2, r3) := by first | (rw [hy207]; with_reducible exact H) | (have H2_ := (Option.bind_some _ _).symm.trans H; rw [hy207]; with_reducible exact H2_) | (have H2_ := (Option.bind_some _ _).symm.trans H; with_reducible exact H2_) | with_reducible exact H | (rw [hy207]; exact H) | exact H
           have Ny207 := Aside0.mk hy207
           clear hy207
           obtain ⟨y210, hy210⟩ : ∃ y_ : List Int, y_ = (([] : List Int)) := ⟨_, rfl⟩
           replace H : (if y210.length + t175.length < 17592186044416 then ((some (y210 ++ t175 : List Int)).bind fun y213 => (if y213.length + t181.length < 17592186044416 then ((spec_l5Right.f kj2 y207 (y213 ++ t181)).bind fun bt219 => (some (bt219.1, bt219.2.1, bt219.2.2))) else (none))) else (none)) = some (r1, r2, r3) := by first | (rw [hy210]; with_reducible exact H) | (have H2_ := (Option.bind_some _ _).symm.trans H; rw [hy210]; with_reducible exact H2_) | (have H2_ := (Option.bind_some _ _).symm.trans H; with_reducible exact H2_) | with_reducible exact H | (rw [hy210]; exact H) | exact H
           have Ny210 := Aside0.mk hy210
           clear hy210
           by_cases c48 : y210.length + t175.length < 17592186044416
           ·
            rw [if_pos c48] at H
            have LMc48 := Aside0.mk c48
            clear c48
            obtain ⟨y213, hy213⟩ : ∃ y_ : List Int, y_ = (y210 ++ t175) := ⟨_, rfl⟩
            replace H : (if y213.length + t181.length < 17592186044416 then ((spec_l5Right.f kj2 y207 (y213 ++ t181)).bind fun bt219 => (some (bt219.1, bt219.2.1, bt219.2.2))) else (none)) = some (r1, r2, r3) := by first | (rw [hy213]; with_reducible exact H) | (have H2_ := (Option.bind_some _ _).symm.trans H; rw [hy213]; with_reducible exact H2_) | (have H2_ := (Option.bind_some _ _).symm.trans H; with_reducible exact H2_) | with_reducible exact H | (rw [hy213]; exact H) | exact H
            have Ny213 := Aside0.mk hy213
            clear hy213
            by_cases c49 : y213.length + t181.length < 17592186044416
            ·
             rw [if_pos c49] at H
             have LMc49 := Aside0.mk c49
             clear c49
             obtain ⟨y216, hy216⟩ : ∃ y_ : List Int, y_ = (y213 ++ t181) := ⟨_, rfl⟩
             replace H : ((spec_l5Right.f kj2 y207 y216).bind fun bt219 => (some (bt219.1, bt219.2.1, bt219.2.2))) = some (r1, r2, r3) := by first | (rw [hy216]; with_reducible exact H) | (have H2_ := (Option.bind_some _ _).symm.trans H; rw [hy216]; with_reducible exact H2_) | (have H2_ := (Option.bind_some _ _).symm.trans H; with_reducible exact H2_) | with_reducible exact H | (rw [hy216]; exact H) | exact H
             have Ny216 := Aside0.mk hy216
             clear hy216
             replace H := Option.bind_eq_some_iff.mp H
             obtain ⟨⟨t219, t222, t225⟩, A500, H⟩ := H
             replace H : (some (t219, t222, t225)) = some (r1, r2, r3) := H
             have A50 := Aside0.mk A500
             clear A500
             simp only [Option.some.injEq, Prod.mk.injEq] at H
             obtain ⟨rfl, rfl, rfl⟩ := H
             try go_wp2
             have n0_ : Aside0 (Kd.V (Kd.int .i64) 3 ((((w56.setCell ⟨gb184, 0, none⟩ (.slice Ao57 t172.length co57)).setCell ⟨gb184, 1, none⟩ (.slice Ao59 t175.length co59)).setCell ⟨gb185, 0, none⟩ (.slice Ao61 t178.length co61)).setCell ⟨gb185, 1, none⟩ (.slice Ao63 t181.length co63)) w.heap.size (fun k_ => ((P0_0_ k_ ∨ P0_1_ k_ ∨ P1_0_ k_ ∨ P1_1_ k_) ∨ w.heap.size ≤ k_) ∧ k_ ≠ gb166 ∧ k_ ≠ gb167 ∧ k_ ≠ gb168 ∧ k_ ≠ gb169 ∧ k_ ≠ gb184 ∧ k_ ≠ gb185) (.slice A0_0 l0_0.length c0_0) l0_0) := ⟨by refine VU ?_; exact Kd.V_mono (Kd.V_far (p := ⟨gb185, 1, none⟩) (Kd.V_far (p := ⟨gb185, 0, none⟩) (Kd.V_far (p := ⟨gb184, 1, none⟩) (Kd.V_far (p := ⟨gb184, 0, none⟩) (Kd.V_mono (Kd.V_mono HO_167000.out (fun k_ hk => (⟨hk, hk.2.2.2.2.2.1⟩ : _ ∧ k_ ≠ gb184))) (fun k_ hk => (⟨hk, hk.1.2.2.2.2.2.2⟩ : _ ∧ k_ ≠ gb185))) (fun _ hk => hk.1.2) (.slice Ao57 t172.length co57)) (fun _ hk => hk.1.2) (.slice Ao59 t175.length co59)) (fun _ hk => hk.2) (.slice Ao61 t178.length co61)) (fun _ hk => hk.2) (.slice Ao63 t181.length co63)) (fun _ hk => ⟨hk.1.1.1, ⟨hk.1.1.2.1, ⟨hk.1.1.2.2.1, ⟨hk.1.1.2.2.2.1, ⟨hk.1.1.2.2.2.2.1, ⟨hk.1.1.2.2.2.2.2.1, hk.1.1.2.2.2.2.2.2⟩⟩⟩⟩⟩⟩)⟩
             have n1_ : Aside0 (Kd.V (Kd.int .i64) 3 ((((w56.setCell ⟨gb184, 0, none⟩ (.slice Ao57 t172.length co57)).setCell ⟨gb184, 1, none⟩ (.slice Ao59 t175.length co59)).setCell ⟨gb185, 0, none⟩ (.slice Ao61 t178.length co61)).setCell ⟨gb185, 1, none⟩ (.slice Ao63 t181.length co63)) w.heap.size (fun k_ => ((P0_0_ k_ ∨ P0_1_ k_ ∨ P1_0_ k_ ∨ P1_1_ k_) ∨ w.heap.size ≤ k_) ∧ k_ ≠ gb166 ∧ k_ ≠ gb167 ∧ k_ ≠ gb168 ∧ k_ ≠ gb169 ∧ k_ ≠ gb184 ∧ k_ ≠ gb185) (.slice A0_1 l0_1.length c0_1) l0_1) := ⟨by refine VU ?_; exact Kd.V_mono (Kd.V_far (p := ⟨gb185, 1, none⟩) (Kd.V_far (p := ⟨gb185, 0, none⟩) (Kd.V_far (p := ⟨gb184, 1, none⟩) (Kd.V_far (p := ⟨gb184, 0, none⟩) (Kd.V_mono (Kd.V_mono HO_167001.out (fun k_ hk => (⟨hk, hk.2.2.2.2.2.1⟩ : _ ∧ k_ ≠ gb184))) (fun k_ hk => (⟨hk, hk.1.2.2.2.2.2.2⟩ : _ ∧ k_ ≠ gb185))) (fun _ hk => hk.1.2) (.slice Ao57 t172.length co57)) (fun _ hk => hk.1.2) (.slice Ao59 t175.length co59)) (fun _ hk => hk.2) (.slice Ao61 t178.length co61)) (fun _ hk => hk.2) (.slice Ao63 t181.length co63)) (fun _ hk => ⟨hk.1.1.1, ⟨hk.1.1.2.1, ⟨hk.1.1.2.2.1, ⟨hk.1.1.2.2.2.1, ⟨hk.1.1.2.2.2.2.1, ⟨hk.1.1.2.2.2.2.2.1, hk.1.1.2.2.2.2.2.2⟩⟩⟩⟩⟩⟩)⟩
             have n2_ : Aside0 (Kd.V (Kd.int .i64) 3 ((((w56.setCell ⟨gb184, 0, none⟩ (.slice Ao57 t172.length co57)).setCell ⟨gb184, 1, none⟩ (.slice Ao59 t175.length co59)).setCell ⟨gb185, 0, none⟩ (.slice Ao61 t178.length co61)).setCell ⟨gb185, 1, none⟩ (.slice Ao63 t181.length co63)) w.heap.size (fun k_ => ((P0_0_ k_ ∨ P0_1_ k_ ∨ P1_0_ k_ ∨ P1_1_ k_) ∨ w.heap.size ≤ k_) ∧ k_ ≠ gb166 ∧ k_ ≠ gb167 ∧ k_ ≠ gb168 ∧ k_ ≠ gb169 ∧ k_ ≠ gb184 ∧ k_ ≠ gb185) (.slice A1_0 l1_0.length c1_0) l1_0) := ⟨by refine VU ?_; exact Kd.V_mono (Kd.V_far (p := ⟨gb185, 1, none⟩) (Kd.V_far (p := ⟨gb185, 0, none⟩) (Kd.V_far (p := ⟨gb184, 1, none⟩) (Kd.V_far (p := ⟨gb184, 0, none⟩) (Kd.V_mono (Kd.V_mono HO_168000.out (fun k_ hk => (⟨hk, hk.2.2.2.2.2.1⟩ : _ ∧ k_ ≠ gb184))) (fun k_ hk => (⟨hk, hk.1.2.2.2.2.2.2⟩ : _ ∧ k_ ≠ gb185))) (fun _ hk => hk.1.2) (.slice Ao57 t172.length co57)) (fun _ hk => hk.1.2) (.slice Ao59 t175.length co59)) (fun _ hk => hk.2) (.slice Ao61 t178.length co61)) (fun _ hk => hk.2) (.slice Ao63 t181.length co63)) (fun _ hk => ⟨hk.1.1.1, ⟨hk.1.1.2.1, ⟨hk.1.1.2.2.1, ⟨hk.1.1.2.2.2.1, ⟨hk.1.1.2.2.2.2.1, ⟨hk.1.1.2.2.2.2.2.1, hk.1.1.2.2.2.2.2.2⟩⟩⟩⟩⟩⟩)⟩
             rename_i h1_47 h1_50 h1_53 h1_56 h1_59 h1_134 h1_172 h1_209 h1_297 h1_298 h1_299 h1_300 h1_301
             revert k P0_0_ A0_0 c0_0 l0_0 P0_1_ A0_1 c0_1 l0_1 P1_0_ A1_0 c1_0 l1_0 P1_1_ A1_1 c1_1 l1_1 w hs0_0 hs0_1 hs1_0 hs1_1 hu26 gb166 w4 GW166 GE166 gb167 w5 GW167 GE167 NB166_167 NB167_166 gb168 w6 GW168 GE168 NB166_168 NB168_166 NB167_168 NB168_167 gb169 w7 HO0_0 HO0_1 HO1_0 HO1_1 h1_47 GW169 GE169 h1_50 NB166_169 NB169_166 h1_53 NB167_169 NB169_167 h1_56 NB168_169 NB169_168 h1_59 hnb8 hnc8 hnb9 hnc9 hnb10 hnc10 wc u10 u11 u12 u13 u14 u15 u16 u17 u19 u20 u21 u22 u23 u25 u26 u27 u28 u29 u30 u31 u32 u34 u35 u36 u37 u38 u39 u40 u41 u42 u43 u44 u45 u46 u47 u48 u49 u50 u51 u52 u53 u54 u55 u56 u57 u58 u59 u60 u61 u62 u63 u64 u65 u66 u67 u68 kj2 HJ2 t172 t175 A37 t178 t181 A38 HT_ HW_ w51 h1_134 gb184 gb185 w56 hS_ HO_167000 HO_167001 HO_168000 HO_168001 BK166 BK167 BK168 BK169 BK184 BK185 GW184 GE184 NB166_184 NB184_166 NB167_184 NB184_167 NB168_184 NB184_168 NB169_184 NB184_169 NB185_184 NB184_185 GW185 GE185 NB166_185 NB185_166 NB167_185 NB185_167 NB168_185 NB185_168 NB169_185 NB185_169 HB h1_172 Ao57 co57 HO174 Ao59 co59 HO177 Ao61 co61 HO180 Ao63 co63 HO183 hs58 hfs58 hns58_0 hns58_1 hns58_2 hns58_3 hns58_5 hms58_0 hms58_1 hms58_2 hms58_3 hms58_5 hs60 hfs60 hns60_0 hns60_1 hns60_2 hns60_3 hns60_5 hms60_0 hms60_1 hms60_2 hms60_3 hms60_5 h1_209 hs62 hfs62 hns62_0 hns62_1 hns62_2 hns62_3 hns62_4 hms62_0 hms62_1 hms62_2 hms62_3 hms62_4 hs64 hfs64 hns64_0 hns64_1 hns64_2 hns64_3 hns64_4 hms64_0 hms64_1 hms64_2 hms64_3 hms64_4 hHeld hnb65 hnc65 hnb66 hnc66 hnb67 hnc67 hnb68 hnc68 hnb69 hnc69 hcz70_0 hcz70_1 hfz70_0 hfz70_1 hnb71 hnc71 hnb72 hnc72 hnb73 hnc73 hnb74 hnc74 hcz75_0 hcz75_1 hfz75_0 hfz75_1 c39b0 c39b1 c39b2 c40b0 c40b1 y186 Ny186 c41b0 c41b1 y191 Ny191 A42 c44b0 c44b1 c45b0 c45b1 y199 Ny199 c46b0 y202 Ny202 LMc47 y207 Ny207 y210 Ny210 LMc48 y213 Ny213 LMc49 y216 Ny216 t219 t222 t225 A50 h1_297 h1_298 h1_299 h1_300 h1_301 n0_ n1_ n2_
             exact hRest_ trivial
            ·
             rw [if_neg c49] at H
             exact absurd H (by simp)
           ·
            rw [if_neg c48] at H
            exact absurd H (by simp)
          ·
           rw [if_neg c47] at H
           exact absurd H (by simp)
         ·
          rw [if_neg c45] at H
          exact absurd H (by simp)
        ·
         rw [if_neg c44] at H
         exact absurd H (by simp)
       ·
        replace c43 := Bool.eq_false_iff.mpr c43
        subst c43
        have H1 : (some (([] : List Int), ([] : List Int), 3)) = some (r1, r2, r3) := by rw [if_neg (show ¬ (false = true) by decide)] at H; exact H
        clear H
        have H := H1
        clear H1
        simp only [Option.some.injEq, Prod.mk.injEq] at H
        obtain ⟨rfl, rfl, rfl⟩ := H
        try go_wp2
        have n0_ : Aside0 (Kd.V (Kd.int .i64) 3 ((((w56.setCell ⟨gb184, 0, none⟩ (.slice Ao57 t172.length co57)).setCell ⟨gb184, 1, none⟩ (.slice Ao59 t175.length co59)).setCell ⟨gb185, 0, none⟩ (.slice Ao61 t178.length co61)).setCell ⟨gb185, 1, none⟩ (.slice Ao63 t181.length co63)) w.heap.size (fun k_ => ((P0_0_ k_ ∨ P0_1_ k_ ∨ P1_0_ k_ ∨ P1_1_ k_) ∨ w.heap.size ≤ k_) ∧ k_ ≠ gb166 ∧ k_ ≠ gb167 ∧ k_ ≠ gb168 ∧ k_ ≠ gb169 ∧ k_ ≠ gb184 ∧ k_ ≠ gb185) (.slice A0_0 l0_0.length c0_0) l0_0) := ⟨by refine VU ?_; exact Kd.V_mono (Kd.V_far (p := ⟨gb185, 1, none⟩) (Kd.V_far (p := ⟨gb185, 0, none⟩) (Kd.V_far (p := ⟨gb184, 1, none⟩) (Kd.V_far (p := ⟨gb184, 0, none⟩) (Kd.V_mono (Kd.V_mono HO_167000.out (fun k_ hk => (⟨hk, hk.2.2.2.2.2.1⟩ : _ ∧ k_ ≠ gb184))) (fun k_ hk => (⟨hk, hk.1.2.2.2.2.2.2⟩ : _ ∧ k_ ≠ gb185))) (fun _ hk => hk.1.2) (.slice Ao57 t172.length co57)) (fun _ hk => hk.1.2) (.slice Ao59 t175.length co59)) (fun _ hk => hk.2) (.slice Ao61 t178.length co61)) (fun _ hk => hk.2) (.slice Ao63 t181.length co63)) (fun _ hk => ⟨hk.1.1.1, ⟨hk.1.1.2.1, ⟨hk.1.1.2.2.1, ⟨hk.1.1.2.2.2.1, ⟨hk.1.1.2.2.2.2.1, ⟨hk.1.1.2.2.2.2.2.1, hk.1.1.2.2.2.2.2.2⟩⟩⟩⟩⟩⟩)⟩
        have n1_ : Aside0 (Kd.V (Kd.int .i64) 3 ((((w56.setCell ⟨gb184, 0, none⟩ (.slice Ao57 t172.length co57)).setCell ⟨gb184, 1, none⟩ (.slice Ao59 t175.length co59)).setCell ⟨gb185, 0, none⟩ (.slice Ao61 t178.length co61)).setCell ⟨gb185, 1, none⟩ (.slice Ao63 t181.length co63)) w.heap.size (fun k_ => ((P0_0_ k_ ∨ P0_1_ k_ ∨ P1_0_ k_ ∨ P1_1_ k_) ∨ w.heap.size ≤ k_) ∧ k_ ≠ gb166 ∧ k_ ≠ gb167 ∧ k_ ≠ gb168 ∧ k_ ≠ gb169 ∧ k_ ≠ gb184 ∧ k_ ≠ gb185) (.slice A0_1 l0_1.length c0_1) l0_1) := ⟨by refine VU ?_; exact Kd.V_mono (Kd.V_far (p := ⟨gb185, 1, none⟩) (Kd.V_far (p := ⟨gb185, 0, none⟩) (Kd.V_far (p := ⟨gb184, 1, none⟩) (Kd.V_far (p := ⟨gb184, 0, none⟩) (Kd.V_mono (Kd.V_mono HO_167001.out (fun k_ hk => (⟨hk, hk.2.2.2.2.2.1⟩ : _ ∧ k_ ≠ gb184))) (fun k_ hk => (⟨hk, hk.1.2.2.2.2.2.2⟩ : _ ∧ k_ ≠ gb185))) (fun _ hk => hk.1.2) (.slice Ao57 t172.length co57)) (fun _ hk => hk.1.2) (.slice Ao59 t175.length co59)) (fun _ hk => hk.2) (.slice Ao61 t178.length co61)) (fun _ hk => hk.2) (.slice Ao63 t181.length co63)) (fun _ hk => ⟨hk.1.1.1, ⟨hk.1.1.2.1, ⟨hk.1.1.2.2.1, ⟨hk.1.1.2.2.2.1, ⟨hk.1.1.2.2.2.2.1, ⟨hk.1.1.2.2.2.2.2.1, hk.1.1.2.2.2.2.2.2⟩⟩⟩⟩⟩⟩)⟩
        have n2_ : Aside0 (Kd.V (Kd.int .i64) 3 ((((w56.setCell ⟨gb184, 0, none⟩ (.slice Ao57 t172.length co57)).setCell ⟨gb184, 1, none⟩ (.slice Ao59 t175.length co59)).setCell ⟨gb185, 0, none⟩ (.slice Ao61 t178.length co61)).setCell ⟨gb185, 1, none⟩ (.slice Ao63 t181.length co63)) w.heap.size (fun k_ => ((P0_0_ k_ ∨ P0_1_ k_ ∨ P1_0_ k_ ∨ P1_1_ k_) ∨ w.heap.size ≤ k_) ∧ k_ ≠ gb166 ∧ k_ ≠ gb167 ∧ k_ ≠ gb168 ∧ k_ ≠ gb169 ∧ k_ ≠ gb184 ∧ k_ ≠ gb185) (.slice A1_0 l1_0.length c1_0) l1_0) := ⟨by refine VU ?_; exact Kd.V_mono (Kd.V_far (p := ⟨gb185, 1, none⟩) (Kd.V_far (p := ⟨gb185, 0, none⟩) (Kd.V_far (p := ⟨gb184, 1, none⟩) (Kd.V_far (p := ⟨gb184, 0, none⟩) (Kd.V_mono (Kd.V_mono HO_168000.out (fun k_ hk => (⟨hk, hk.2.2.2.2.2.1⟩ : _ ∧ k_ ≠ gb184))) (fun k_ hk => (⟨hk, hk.1.2.2.2.2.2.2⟩ : _ ∧ k_ ≠ gb185))) (fun _ hk => hk.1.2) (.slice Ao57 t172.length co57)) (fun _ hk => hk.1.2) (.slice Ao59 t175.length co59)) (fun _ hk => hk.2) (.slice Ao61 t178.length co61)) (fun _ hk => hk.2) (.slice Ao63 t181.length co63)) (fun _ hk => ⟨hk.1.1.1, ⟨hk.1.1.2.1, ⟨hk.1.1.2.2.1, ⟨hk.1.1.2.2.2.1, ⟨hk.1.1.2.2.2.2.1, ⟨hk.1.1.2.2.2.2.2.1, hk.1.1.2.2.2.2.2.2⟩⟩⟩⟩⟩⟩)⟩
        have n3_ : Aside0 (Kd.V (Kd.int .i64) 3 ((((w56.setCell ⟨gb184, 0, none⟩ (.slice Ao57 t172.length co57)).setCell ⟨gb184, 1, none⟩ (.slice Ao59 t175.length co59)).setCell ⟨gb185, 0, none⟩ (.slice Ao61 t178.length co61)).setCell ⟨gb185, 1, none⟩ (.slice Ao63 t181.length co63)) w.heap.size (fun k_ => ((P0_0_ k_ ∨ P0_1_ k_ ∨ P1_0_ k_ ∨ P1_1_ k_) ∨ w.heap.size ≤ k_) ∧ k_ ≠ gb166 ∧ k_ ≠ gb167 ∧ k_ ≠ gb168 ∧ k_ ≠ gb169 ∧ k_ ≠ gb184 ∧ k_ ≠ gb185) (.slice A1_1 l1_1.length c1_1) l1_1) := ⟨by refine VU ?_; exact Kd.V_mono (Kd.V_far (p := ⟨gb185, 1, none⟩) (Kd.V_far (p := ⟨gb185, 0, none⟩) (Kd.V_far (p := ⟨gb184, 1, none⟩) (Kd.V_far (p := ⟨gb184, 0, none⟩) (Kd.V_mono (Kd.V_mono HO_168001.out (fun k_ hk => (⟨hk, hk.2.2.2.2.2.1⟩ : _ ∧ k_ ≠ gb184))) (fun k_ hk => (⟨hk, hk.1.2.2.2.2.2.2⟩ : _ ∧ k_ ≠ gb185))) (fun _ hk => hk.1.2) (.slice Ao57 t172.length co57)) (fun _ hk => hk.1.2) (.slice Ao59 t175.length co59)) (fun _ hk => hk.2) (.slice Ao61 t178.length co61)) (fun _ hk => hk.2) (.slice Ao63 t181.length co63)) (fun _ hk => ⟨hk.1.1.1, ⟨hk.1.1.2.1, ⟨hk.1.1.2.2.1, ⟨hk.1.1.2.2.2.1, ⟨hk.1.1.2.2.2.2.1, ⟨hk.1.1.2.2.2.2.2.1, hk.1.1.2.2.2.2.2.2⟩⟩⟩⟩⟩⟩)⟩
        have n4_ : Aside0 (Kd.V (Kd.int .i64) 3 ((((w56.setCell ⟨gb184, 0, none⟩ (.slice Ao57 t172.length co57)).setCell ⟨gb184, 1, none⟩ (.slice Ao59 t175.length co59)).setCell ⟨gb185, 0, none⟩ (.slice Ao61 t178.length co61)).setCell ⟨gb185, 1, none⟩ (.slice Ao63 t181.length co63)) w.heap.size (fun k_ => ((P0_0_ k_ ∨ P0_1_ k_ ∨ P1_0_ k_ ∨ P1_1_ k_) ∨ w.heap.size ≤ k_) ∧ k_ ≠ gb166 ∧ k_ ≠ gb167 ∧ k_ ≠ gb168 ∧ k_ ≠ gb169 ∧ k_ ≠ gb184 ∧ k_ ≠ gb185) (.slice Ao57 t172.length co57) t172) := ⟨by refine VU ?_; exact Kd.V_mono (Kd.V_far (p := ⟨gb185, 1, none⟩) (Kd.V_far (p := ⟨gb185, 0, none⟩) (Kd.V_far (p := ⟨gb184, 1, none⟩) (Kd.V_far (p := ⟨gb184, 0, none⟩) (Kd.V_mono (Kd.V_mono HO174.out (fun k_ hk => (⟨hk, hk.2.2.2.2.2.1⟩ : _ ∧ k_ ≠ gb184))) (fun k_ hk => (⟨hk, hk.1.2.2.2.2.2.2⟩ : _ ∧ k_ ≠ gb185))) (fun _ hk => hk.1.2) (.slice Ao57 t172.length co57)) (fun _ hk => hk.1.2) (.slice Ao59 t175.length co59)) (fun _ hk => hk.2) (.slice Ao61 t178.length co61)) (fun _ hk => hk.2) (.slice Ao63 t181.length co63)) (fun _ hk => ⟨hk.1.1.1, ⟨hk.1.1.2.1, ⟨hk.1.1.2.2.1, ⟨hk.1.1.2.2.2.1, ⟨hk.1.1.2.2.2.2.1, ⟨hk.1.1.2.2.2.2.2.1, hk.1.1.2.2.2.2.2.2⟩⟩⟩⟩⟩⟩)⟩
        have n5_ : Aside0 (Kd.V (Kd.int .i64) 3 ((((w56.setCell ⟨gb184, 0, none⟩ (.slice Ao57 t172.length co57)).setCell ⟨gb184, 1, none⟩ (.slice Ao59 t175.length co59)).setCell ⟨gb185, 0, none⟩ (.slice Ao61 t178.length co61)).setCell ⟨gb185, 1, none⟩ (.slice Ao63 t181.length co63)) w.heap.size (fun k_ => ((P0_0_ k_ ∨ P0_1_ k_ ∨ P1_0_ k_ ∨ P1_1_ k_) ∨ w.heap.size ≤ k_) ∧ k_ ≠ gb166 ∧ k_ ≠ gb167 ∧ k_ ≠ gb168 ∧ k_ ≠ gb169 ∧ k_ ≠ gb184 ∧ k_ ≠ gb185) (.slice Ao59 t175.length co59) t175) := ⟨by refine VU ?_; exact Kd.V_mono (Kd.V_far (p := ⟨gb185, 1, none⟩) (Kd.V_far (p := ⟨gb185, 0, none⟩) (Kd.V_far (p := ⟨gb184, 1, none⟩) (Kd.V_far (p := ⟨gb184, 0, none⟩) (Kd.V_mono (Kd.V_mono HO177.out (fun k_ hk => (⟨hk, hk.2.2.2.2.2.1⟩ : _ ∧ k_ ≠ gb184))) (fun k_ hk => (⟨hk, hk.1.2.2.2.2.2.2⟩ : _ ∧ k_ ≠ gb185))) (fun _ hk => hk.1.2) (.slice Ao57 t172.length co57)) (fun _ hk => hk.1.2) (.slice Ao59 t175.length co59)) (fun _ hk => hk.2) (.slice Ao61 t178.length co61)) (fun _ hk => hk.2) (.slice Ao63 t181.length co63)) (fun _ hk => ⟨hk.1.1.1, ⟨hk.1.1.2.1, ⟨hk.1.1.2.2.1, ⟨hk.1.1.2.2.2.1, ⟨hk.1.1.2.2.2.2.1, ⟨hk.1.1.2.2.2.2.2.1, hk.1.1.2.2.2.2.2.2⟩⟩⟩⟩⟩⟩)⟩
        have n6_ : Aside0 (Kd.V (Kd.int .i64) 3 ((((w56.setCell ⟨gb184, 0, none⟩ (.slice Ao57 t172.length co57)).setCell ⟨gb184, 1, none⟩ (.slice Ao59 t175.length co59)).setCell ⟨gb185, 0, none⟩ (.slice Ao61 t178.length co61)).setCell ⟨gb185, 1, none⟩ (.slice Ao63 t181.length co63)) w.heap.size (fun k_ => ((P0_0_ k_ ∨ P0_1_ k_ ∨ P1_0_ k_ ∨ P1_1_ k_) ∨ w.heap.size ≤ k_) ∧ k_ ≠ gb166 ∧ k_ ≠ gb167 ∧ k_ ≠ gb168 ∧ k_ ≠ gb169 ∧ k_ ≠ gb184 ∧ k_ ≠ gb185) (.slice Ao61 t178.length co61) t178) := ⟨by refine VU ?_; exact Kd.V_mono (Kd.V_far (p := ⟨gb185, 1, none⟩) (Kd.V_far (p := ⟨gb185, 0, none⟩) (Kd.V_far (p := ⟨gb184, 1, none⟩) (Kd.V_far (p := ⟨gb184, 0, none⟩) (Kd.V_mono (Kd.V_mono HO180.out (fun k_ hk => (⟨hk, hk.2.2.2.2.2.1⟩ : _ ∧ k_ ≠ gb184))) (fun k_ hk => (⟨hk, hk.1.2.2.2.2.2.2⟩ : _ ∧ k_ ≠ gb185))) (fun _ hk => hk.1.2) (.slice Ao57 t172.length co57)) (fun _ hk => hk.1.2) (.slice Ao59 t175.length co59)) (fun _ hk => hk.2) (.slice Ao61 t178.length co61)) (fun _ hk => hk.2) (.slice Ao63 t181.length co63)) (fun _ hk => ⟨hk.1.1.1, ⟨hk.1.1.2.1, ⟨hk.1.1.2.2.1, ⟨hk.1.1.2.2.2.1, ⟨hk.1.1.2.2.2.2.1, ⟨hk.1.1.2.2.2.2.2.1, hk.1.1.2.2.2.2.2.2⟩⟩⟩⟩⟩⟩)⟩
        have n7_ : Aside0 (Kd.V (Kd.int .i64) 3 ((((w56.setCell ⟨gb184, 0, none⟩ (.slice Ao57 t172.length co57)).setCell ⟨gb184, 1, none⟩ (.slice Ao59 t175.length co59)).setCell ⟨gb185, 0, none⟩ (.slice Ao61 t178.length co61)).setCell ⟨gb185, 1, none⟩ (.slice Ao63 t181.length co63)) w.heap.size (fun k_ => ((P0_0_ k_ ∨ P0_1_ k_ ∨ P1_0_ k_ ∨ P1_1_ k_) ∨ w.heap.size ≤ k_) ∧ k_ ≠ gb166 ∧ k_ ≠ gb167 ∧ k_ ≠ gb168 ∧ k_ ≠ gb169 ∧ k_ ≠ gb184 ∧ k_ ≠ gb185) (.slice Ao63 t181.length co63) t181) := ⟨by refine VU ?_; exact Kd.V_mono (Kd.V_far (p := ⟨gb185, 1, none⟩) (Kd.V_far (p := ⟨gb185, 0, none⟩) (Kd.V_far (p := ⟨gb184, 1, none⟩) (Kd.V_far (p := ⟨gb184, 0, none⟩) (Kd.V_mono (Kd.V_mono HO183.out (fun k_ hk => (⟨hk, hk.2.2.2.2.2.1⟩ : _ ∧ k_ ≠ gb184))) (fun k_ hk => (⟨hk, hk.1.2.2.2.2.2.2⟩ : _ ∧ k_ ≠ gb185))) (fun _ hk => hk.1.2) (.slice Ao57 t172.length co57)) (fun _ hk => hk.1.2) (.slice Ao59 t175.length co59)) (fun _ hk => hk.2) (.slice Ao61 t178.length co61)) (fun _ hk => hk.2) (.slice Ao63 t181.length co63)) (fun _ hk => ⟨hk.1.1.1, ⟨hk.1.1.2.1, ⟨hk.1.1.2.2.1, ⟨hk.1.1.2.2.2.1, ⟨hk.1.1.2.2.2.2.1, ⟨hk.1.1.2.2.2.2.2.1, hk.1.1.2.2.2.2.2.2⟩⟩⟩⟩⟩⟩)⟩
        have n8_ : Aside0 (((((w56.setCell ⟨gb184, 0, none⟩ (.slice Ao57 t172.length co57)).setCell ⟨gb184, 1, none⟩ (.slice Ao59 t175.length co59)).setCell ⟨gb185, 0, none⟩ (.slice Ao61 t178.length co61)).setCell ⟨gb185, 1, none⟩ (.slice Ao63 t181.length co63)).heap[gb166]? = some (.cells #[.slice A0_0 l0_0.length c0_0, .slice A0_1 l0_1.length c0_1] 26 (0, 0))) := ⟨by refine kU ?_; refine blk_far ?_ NB166_185.out _; refine kU ?_; refine blk_far ?_ NB166_185.out _; refine kU ?_; refine blk_far ?_ NB166_184.out _; refine kU ?_; refine blk_far ?_ NB166_184.out _; refine kU ?_; exact BK166.out⟩
        have n9_ : Aside0 (((((w56.setCell ⟨gb184, 0, none⟩ (.slice Ao57 t172.length co57)).setCell ⟨gb184, 1, none⟩ (.slice Ao59 t175.length co59)).setCell ⟨gb185, 0, none⟩ (.slice Ao61 t178.length co61)).setCell ⟨gb185, 1, none⟩ (.slice Ao63 t181.length co63)).heap[gb167]? = some (.cells #[.slice A1_0 l1_0.length c1_0, .slice A1_1 l1_1.length c1_1] 26 (0, 0))) := ⟨by refine kU ?_; refine blk_far ?_ NB167_185.out _; refine kU ?_; refine blk_far ?_ NB167_185.out _; refine kU ?_; refine blk_far ?_ NB167_184.out _; refine kU ?_; refine blk_far ?_ NB167_184.out _; refine kU ?_; exact BK167.out⟩
        have n10_ : Aside0 (((((w56.setCell ⟨gb184, 0, none⟩ (.slice Ao57 t172.length co57)).setCell ⟨gb184, 1, none⟩ (.slice Ao59 t175.length co59)).setCell ⟨gb185, 0, none⟩ (.slice Ao61 t178.length co61)).setCell ⟨gb185, 1, none⟩ (.slice Ao63 t181.length co63)).heap[gb168]? = some (.cells #[.slice none 0 0, .slice none 0 0] 26 (0, 0))) := ⟨by refine kU ?_; refine blk_far ?_ NB168_185.out _; refine kU ?_; refine blk_far ?_ NB168_185.out _; refine kU ?_; refine blk_far ?_ NB168_184.out _; refine kU ?_; refine blk_far ?_ NB168_184.out _; refine kU ?_; exact BK168.out⟩
        have n11_ : Aside0 (((((w56.setCell ⟨gb184, 0, none⟩ (.slice Ao57 t172.length co57)).setCell ⟨gb184, 1, none⟩ (.slice Ao59 t175.length co59)).setCell ⟨gb185, 0, none⟩ (.slice Ao61 t178.length co61)).setCell ⟨gb185, 1, none⟩ (.slice Ao63 t181.length co63)).heap[gb169]? = some (.cells #[.slice none 0 0, .slice none 0 0] 26 (0, 0))) := ⟨by refine kU ?_; refine blk_far ?_ NB169_185.out _; refine kU ?_; refine blk_far ?_ NB169_185.out _; refine kU ?_; refine blk_far ?_ NB169_184.out _; refine kU ?_; refine blk_far ?_ NB169_184.out _; refine kU ?_; exact BK169.out⟩
        have n12_ : Aside0 (((((w56.setCell ⟨gb184, 0, none⟩ (.slice Ao57 t172.length co57)).setCell ⟨gb184, 1, none⟩ (.slice Ao59 t175.length co59)).setCell ⟨gb185, 0, none⟩ (.slice Ao61 t178.length co61)).setCell ⟨gb185, 1, none⟩ (.slice Ao63 t181.length co63)).heap[gb184]? = some (.cells #[.slice Ao57 t172.length co57, .slice Ao59 t175.length co59] 26 (0, 0))) := ⟨by refine kU ?_; refine blk_far ?_ NB184_185.out _; refine kU ?_; refine blk_far ?_ NB184_185.out _; refine kU ?_; refine blk_put (cs := #[.slice Ao57 t172.length co57, .slice none 0 0]) ?_ 1 _ rfl; refine kU ?_; refine blk_put (cs := #[.slice none 0 0, .slice none 0 0]) ?_ 0 _ rfl; refine kU ?_; exact BK184.out⟩
        have n13_ : Aside0 (((((w56.setCell ⟨gb184, 0, none⟩ (.slice Ao57 t172.length co57)).setCell ⟨gb184, 1, none⟩ (.slice Ao59 t175.length co59)).setCell ⟨gb185, 0, none⟩ (.slice Ao61 t178.length co61)).setCell ⟨gb185, 1, none⟩ (.slice Ao63 t181.length co63)).heap[gb185]? = some (.cells #[.slice Ao61 t178.length co61, .slice Ao63 t181.length co63] 26 (0, 0))) := ⟨by refine kU ?_; refine blk_put (cs := #[.slice Ao61 t178.length co61, .slice none 0 0]) ?_ 1 _ rfl; refine kU ?_; refine blk_put (cs := #[.slice none 0 0, .slice none 0 0]) ?_ 0 _ rfl; refine kU ?_; refine blk_far ?_ NB185_184.out _; refine kU ?_; refine blk_far ?_ NB185_184.out _; refine kU ?_; exact BK185.out⟩
        have n14_ : Aside0 (Below w.heap.size w ((((w56.setCell ⟨gb184, 0, none⟩ (.slice Ao57 t172.length co57)).setCell ⟨gb184, 1, none⟩ (.slice Ao59 t175.length co59)).setCell ⟨gb185, 0, none⟩ (.slice Ao61 t178.length co61)).setCell ⟨gb185, 1, none⟩ (.slice Ao63 t181.length co63))) := ⟨by exact bS6 HB.out GE166.out GE167.out GE168.out GE169.out GE184.out GE185.out⟩
        (try clear HO_167000)
        (try clear HO_167001)
        (try clear HO_168000)
        (try clear HO_168001)
        (try clear HO174)
        (try clear HO177)
        (try clear HO180)
        (try clear HO183)
        (try clear BK166)
        (try clear BK167)
        (try clear BK168)
        (try clear BK169)
        (try clear BK184)
        (try clear BK185)
        (try clear HB)
        generalize ((((w56.setCell ⟨gb184, 0, none⟩ (.slice Ao57 t172.length co57)).setCell ⟨gb184, 1, none⟩ (.slice Ao59 t175.length co59)).setCell ⟨gb185, 0, none⟩ (.slice Ao61 t178.length co61)).setCell ⟨gb185, 1, none⟩ (.slice Ao63 t181.length co63)) = w122 at n0_ n1_ n2_ n3_ n4_ n5_ n6_ n7_ n8_ n9_ n10_ n11_ n12_ n13_ n14_ ⊢
        have HO_167000 := n0_
        have HO_167001 := n1_
        have HO_168000 := n2_
        have HO_168001 := n3_
        have HO174 := n4_
        have HO177 := n5_
        have HO180 := n6_
        have HO183 := n7_
        have BK166 := n8_
        have BK167 := n9_
        have BK168 := n10_
        have BK169 := n11_
        have BK184 := n12_
        have BK185 := n13_
        have HB := n14_
        clear n0_ n1_ n2_ n3_ n4_ n5_ n6_ n7_ n8_ n9_ n10_ n11_ n12_ n13_ n14_
        replace HO_167000 := Aside0.mk (Kd.V_drew HO_167000.out)
        replace HO_167001 := Aside0.mk (Kd.V_drew HO_167001.out)
        replace HO_168000 := Aside0.mk (Kd.V_drew HO_168000.out)
        replace HO_168001 := Aside0.mk (Kd.V_drew HO_168001.out)
        replace HO174 := Aside0.mk (Kd.V_drew HO174.out)
        replace HO177 := Aside0.mk (Kd.V_drew HO177.out)
        replace HO180 := Aside0.mk (Kd.V_drew HO180.out)
        replace HO183 := Aside0.mk (Kd.V_drew HO183.out)
        replace BK166 := Aside0.mk (blk_drew BK166.out)
        replace BK167 := Aside0.mk (blk_drew BK167.out)
        replace BK168 := Aside0.mk (blk_drew BK168.out)
        replace BK169 := Aside0.mk (blk_drew BK169.out)
        replace BK184 := Aside0.mk (blk_drew BK184.out)
        replace BK185 := Aside0.mk (blk_drew BK185.out)
        replace HB := Aside0.mk (below_drew1 HB.out)
        have q124 : (1 : Int) ≤ ((t172.length : Int) : Int) := of_decide_eq_true (by first | (with_reducible assumption) | assumption)
        obtain ⟨i0124, hi0124, _, hsz124, _⟩ := info_parts info3
        have hroom124 : t172.length ≤ co57 := (Kd.V_reads' HO174.out).2.1
        have hC124 : Kd.F (Kd.int .i64) _ _ Ao57 t172.length t172 := (Kd.V_at (base := w.heap.size) HO174.out).2.2
        have hcut124 := cut_from (P := Try.prog) 22 3 .i64 Try.underlying22 hi0124 1 hsz124 Ao57 t172.length co57 1 (by omega) q124
        have hr124 := Kd.F_cut (m := (1 : Int).toNat) (c := co57) hC124 (by omega) hroom124
        obtain ⟨A124, hA124⟩ : ∃ A1, A1 = (if co57 = (1 : Int).toNat then Ao57 else (Ao57 : Option Addr).map (·.add ((1 : Int).toNat * 1))) := ⟨_, rfl⟩
        obtain ⟨c124, hc124⟩ : ∃ c1, c1 = co57 - (1 : Int).toNat := ⟨_, rfl⟩
        have hy124 : y186.length = t172.length - (1 : Int).toNat := (by rw [Ny186.out, List.length_drop] <;> omega)
        rw [show (t172).drop (1 : Int).toNat = y186 from Ny186.out.symm] at hr124
        replace hr124 : Kd.F (Kd.int .i64) _ _ A124 y186.length y186 := (by rw [hA124]; exact hr124)
        rw [← hy124, ← hA124, ← hc124] at hcut124
        have HO190 := Aside0.mk (show Kd.V (Kd.int .i64) 3 _ w.heap.size _ (.slice A124 y186.length c124) y186 from Kd.V_mk (by rw [hy124, hc124]; exact Nat.sub_le_sub_right hroom124 _) hr124)
        have HC190 := Aside0.mk (show y186.length ≤ c124 from by rw [hy124, hc124]; exact Nat.sub_le_sub_right hroom124 _)
        clear hr124 hC124 hroom124 hi0124 hsz124 hc124
        have KY124 := Aside0.mk hy124
        have KA124 := Aside0.mk hA124
        clear hy124 hA124
        replace q124 := eq_true q124
        have q125 : (1 : Int) ≤ ((t178.length : Int) : Int) := of_decide_eq_true (by first | (with_reducible assumption) | assumption)
        obtain ⟨i0125, hi0125, _, hsz125, _⟩ := info_parts info3
        have hroom125 : t178.length ≤ co61 := (Kd.V_reads' HO180.out).2.1
        have hC125 : Kd.F (Kd.int .i64) _ _ Ao61 t178.length t178 := (Kd.V_at (base := w.heap.size) HO180.out).2.2
        have hcut125 := cut_from (P := Try.prog) 22 3 .i64 Try.underlying22 hi0125 1 hsz125 Ao61 t178.length co61 1 (by omega) q125
        have hr125 := Kd.F_cut (m := (1 : Int).toNat) (c := co61) hC125 (by omega) hroom125
        obtain ⟨A125, hA125⟩ : ∃ A1, A1 = (if co61 = (1 : Int).toNat then Ao61 else (Ao61 : Option Addr).map (·.add ((1 : Int).toNat * 1))) := ⟨_, rfl⟩
        obtain ⟨c125, hc125⟩ : ∃ c1, c1 = co61 - (1 : Int).toNat := ⟨_, rfl⟩
        have hy125 : y191.length = t178.length - (1 : Int).toNat := (by rw [Ny191.out, List.length_drop] <;> omega)
        rw [show (t178).drop (1 : Int).toNat = y191 from Ny191.out.symm] at hr125
        replace hr125 : Kd.F (Kd.int .i64) _ _ A125 y191.length y191 := (by rw [hA125]; exact hr125)
        rw [← hy125, ← hA125, ← hc125] at hcut125
        have HO195 := Aside0.mk (show Kd.V (Kd.int .i64) 3 _ w.heap.size _ (.slice A125 y191.length c125) y191 from Kd.V_mk (by rw [hy125, hc125]; exact Nat.sub_le_sub_right hroom125 _) hr125)
        have HC195 := Aside0.mk (show y191.length ≤ c125 from by rw [hy125, hc125]; exact Nat.sub_le_sub_right hroom125 _)
        clear hr125 hC125 hroom125 hi0125 hsz125 hc125
        have KY125 := Aside0.mk hy125
        have KA125 := Aside0.mk hA125
        clear hy125 hA125
        replace q125 := eq_true q125
        refine start_ (n := 9) (S := fun w' => w'.cell? ⟨gb184, 0, none⟩ = some (.slice Ao57 t172.length co57) ∧ w'.cell? ⟨gb184, 1, none⟩ = some (.slice Ao59 t175.length co59) ∧ w'.cell? ⟨gb185, 0, none⟩ = some (.slice Ao61 t178.length co61) ∧ w'.cell? ⟨gb185, 1, none⟩ = some (.slice Ao63 t181.length co63)) (ds := []) #[false, false, false, false, false, false, false, false, false] (by kernel_rfl) rfl rfl ⟨(blk_cell BK184.out 0).trans rfl, (blk_cell BK184.out 1).trans rfl, (blk_cell BK185.out 0).trans rfl, (blk_cell BK185.out 1).trans rfl⟩ (fun hHeld => ?_); refine with_tabW spec_Join.tab7 spec_Join.bits7 (fun HT_ HW_ => ?_)
        generalize w122.drew = w123 at HO_167000 HO_167001 HO_168000 HO_168001 HO174 HO177 HO180 HO183 BK166 BK167 BK168 BK169 BK184 BK185 HB HO190 HO195 hHeld ⊢
        refine pure_ (i := 0) (N := some 34) (v := ?_) (a' := ?_) #[true, false, false, false, false, false, false, false, false] rfl rfl (any_of HT_.out (by kernel_rfl)) (fun _ _ _ h => h) (Or.inl ⟨by rfl, ?_⟩) ?_ ?_
        rotate_left
        ·
         intro w'
         go_simp
         with_reducible rfl
        rotate_left
        ·
         simp only [Act.put, List.setIfInBounds_toArray, List.set_cons_zero, List.set_cons_succ, i64_w, i32_w]
         rfl
        refine pure_ (i := 3) (N := some 37) (v := ?_) (a' := ?_) #[true, false, false, true, false, false, false, false, false] rfl rfl (any_of HT_.out (by kernel_rfl)) (fun _ _ _ h => h) (Or.inl ⟨by rfl, ?_⟩) ?_ ?_
        rotate_left
        ·
         intro w'
         go_simp
         with_reducible rfl
        rotate_left
        ·
         simp only [Act.put, List.setIfInBounds_toArray, List.set_cons_zero, List.set_cons_succ, i64_w, i32_w]
         rfl
        refine take_ (i := 1) (N := some 35) (v := ?_) (a' := ?_) #[true, true, false, true, false, false, false, false, false] rfl rfl (take_ofW HT_.out HW_.out (by kernel_rfl)) (fun _ _ _ h => h) (Or.inl ⟨by rfl, ?_⟩) hHeld ?_ ?_
        rotate_left
        ·
         rintro w' ⟨s0, s1, s2, s3⟩
         go_simp
         with_reducible rfl
        rotate_left
        ·
         simp only [Act.put, List.setIfInBounds_toArray, List.set_cons_zero, List.set_cons_succ, i64_w, i32_w]
         rfl
        refine pure_ (i := 2) (N := some 36) (v := ?_) (a' := ?_) #[true, true, true, true, false, false, false, false, false] rfl rfl (any_of HT_.out (by kernel_rfl)) (fun _ _ _ h => h) (Or.inl ⟨by rfl, ?_⟩) ?_ ?_
        rotate_left
        ·
         intro w'
         go_simp
         with_reducible rfl
        rotate_left
        ·
         simp only [Act.put, List.setIfInBounds_toArray, List.set_cons_zero, List.set_cons_succ, i64_w, i32_w]
         rfl
        refine take_ (i := 4) (N := some 38) (v := ?_) (a' := ?_) #[true, true, true, true, true, false, false, false, false] rfl rfl (take_ofW HT_.out HW_.out (by kernel_rfl)) (fun _ _ _ h => h) (Or.inl ⟨by rfl, ?_⟩) hHeld ?_ ?_
        rotate_left
        ·
         rintro w' ⟨s0, s1, s2, s3⟩
         go_simp
         with_reducible rfl
        rotate_left
        ·
         simp only [Act.put, List.setIfInBounds_toArray, List.set_cons_zero, List.set_cons_succ, i64_w, i32_w]
         rfl
        refine pure_ (i := 5) (N := some 39) (v := ?_) (a' := ?_) #[true, true, true, true, true, true, false, false, false] rfl rfl (any_of HT_.out (by kernel_rfl)) (fun _ _ _ h => h) (Or.inl ⟨by rfl, ?_⟩) ?_ ?_
        rotate_left
        ·
         intro w'
         go_simp
         with_reducible rfl
        rotate_left
        ·
         simp only [Act.put, List.setIfInBounds_toArray, List.set_cons_zero, List.set_cons_succ, i64_w, i32_w]
         rfl
        refine one_ (i := 6) (N := some 40) #[true, true, true, true, true, true, true, false, false] rfl rfl (one_of HT_.out (by kernel_rfl)) (by decide) (fun K hK => ?_)
        refine goes_ Try.func101 (by kernel_rfl) rfl #[.slice A124 y186.length c124, .slice A125 y191.length c125] (by rfl) rfl rfl lU ?_
        with_reducible refine (spec_l2Same.calls kj2 _ _ y186 _ _ y191 false _ ?side1 ?side2 ?side3 ?side4 A42.out).mono ?_
        (case side1 => exact cU (Kd.V_reads' HO190.out).2.2)
        (case side2 => exact (Kd.V_reads' HO190.out).2.1)
        (case side3 => exact cU (Kd.V_reads' HO195.out).2.2)
        (case side4 => exact (Kd.V_reads' HO195.out).2.1)
        rintro e w' ⟨rfl, ⟨nd, rfl⟩⟩
        refine ⟨_, rfl, ?_⟩
        refine hK.out _ _ ⟨(blk_cell BK184.out 0).trans rfl, (blk_cell BK184.out 1).trans rfl, (blk_cell BK185.out 0).trans rfl, (blk_cell BK185.out 1).trans rfl⟩ (fun hHeld => ?_)
        clear hK K
        refine norm_ (a' := ?_) ?_ ?_
        rotate_left
        ·
         show Act.put _ (some 40) _ = _
         simp only [Act.put, List.setIfInBounds_toArray, List.set_cons_zero, List.set_cons_succ, i64_w, i32_w]
         rfl
        refine pure_ (i := 7) (N := some 41) (v := ?_) (a' := ?_) #[true, true, true, true, true, true, true, true, false] rfl rfl (any_of HT_.out (by kernel_rfl)) (fun _ _ _ h => h) (Or.inl ⟨by rfl, ?_⟩) ?_ ?_
        rotate_left
        ·
         intro w'
         go_simp
         with_reducible rfl
        rotate_left
        ·
         simp only [Act.put, List.setIfInBounds_toArray, List.set_cons_zero, List.set_cons_succ, i64_w, i32_w]
         rfl
        refine pure_ (i := 8) (N := some 33) (v := ?_) (a' := ?_) #[true, true, true, true, true, true, true, true, true] rfl rfl (any_of HT_.out (by kernel_rfl)) (fun _ _ _ h => h) (Or.inl ⟨by rfl, ?_⟩) ?_ ?_
        rotate_left
        ·
         intro w'
         go_simp
         with_reducible rfl
        rotate_left
        ·
         simp only [Act.put, List.setIfInBounds_toArray, List.set_cons_zero, List.set_cons_succ, i64_w, i32_w]
         rfl
        refine done_ (done_of HT_.out (by kernel_rfl)) ?_
        have hnb126 := NB169_166.out
        have hnc126 := NB166_169.out
        have hnb127 := NB169_167.out
        have hnc127 := NB167_169.out
        have hnb128 := NB169_168.out
        have hnc128 := NB168_169.out
        have hcz129_0 : w123.cell? ⟨gb169, 0, none⟩ = some (.slice none 0 0) := (blk_cell BK169.out 0).trans rfl
        have hcz129_1 : w123.cell? ⟨gb169, 1, none⟩ = some (.slice none 0 0) := (blk_cell BK169.out 1).trans rfl
        have hfz129_0 := blk_frozen BK169.out 0
        have hfz129_1 := blk_frozen BK169.out 1
        have hnb130 := NB168_166.out
        have hnc130 := NB166_168.out
        have hnb131 := NB168_167.out
        have hnc131 := NB167_168.out
        have hcz132_0 : w123.cell? ⟨gb168, 0, none⟩ = some (.slice none 0 0) := (blk_cell BK168.out 0).trans rfl
        have hcz132_1 : w123.cell? ⟨gb168, 1, none⟩ = some (.slice none 0 0) := (blk_cell BK168.out 1).trans rfl
        have hfz132_0 := blk_frozen BK168.out 0
        have hfz132_1 := blk_frozen BK168.out 1
        try go_wp2
        refine bodyPost_ret (results_ct rfl _ _ gb168 26 #[.slice none 0 0, .slice none 0 0] (0, 0) _ rfl (by refine kU ?_; refine blk_put (cs := #[.slice none 0 0, .slice none 0 0]) ?_ 1 _ rfl; refine kU ?_; refine blk_put (cs := #[.slice none 0 0, .slice none 0 0]) ?_ 0 _ rfl; refine kU ?_; exact BK168.out) Try.underlying26 rfl (by kernel_rfl)) rfl ?_
        exact ⟨_, _, by first | rfl | (simp [errW_none, errW_some] <;> rfl) | (simp [*, errW_none, errW_some] <;> rfl), Kd.V_mono (Kd.R_V (Kd.R_nil _ _ _ 0 (fun _ => False))) (fun _ hk => hk.elim), Kd.V_mono (Kd.R_V (Kd.R_nil _ _ _ 0 (fun _ => False))) (fun _ hk => hk.elim), by exact bS6 HB.out GE166.out GE167.out GE168.out GE169.out GE184.out GE185.out⟩
      ·
       rw [if_neg c41] at H
       exact absurd H (by simp)
     ·
      rw [if_neg c40] at H
      exact absurd H (by simp)
    ·
     rw [if_neg c39] at H
     have c39b0 : ((t172.length : Int) == (t178.length : Int)) = false := beq_eq_false_iff_ne.mpr c39
     have c39b1 : ((t172.length : Int) != (t178.length : Int)) = true := bne_iff_ne.mpr c39
     have c39b2 : (t172.length == t178.length) = false := by first | simpa using c39 | (simp at c39 ⊢; omega)
     simp only [Option.some.injEq, Prod.mk.injEq] at H
     obtain ⟨rfl, rfl, rfl⟩ := H
     have hnb158 := NB169_166.out
     have hnc158 := NB166_169.out
     have hnb159 := NB169_167.out
     have hnc159 := NB167_169.out
     have hnb160 := NB169_168.out
     have hnc160 := NB168_169.out
     have hcz161_0 : w56.cell? ⟨gb169, 0, none⟩ = some (.slice none 0 0) := (blk_cell BK169.out 0).trans rfl
     have hcz161_1 : w56.cell? ⟨gb169, 1, none⟩ = some (.slice none 0 0) := (blk_cell BK169.out 1).trans rfl
     have hfz161_0 := blk_frozen BK169.out 0
     have hfz161_1 := blk_frozen BK169.out 1
     have hnb162 := NB168_166.out
     have hnc162 := NB166_168.out
     have hnb163 := NB168_167.out
     have hnc163 := NB167_168.out
     have hcz164_0 : w56.cell? ⟨gb168, 0, none⟩ = some (.slice none 0 0) := (blk_cell BK168.out 0).trans rfl
     have hcz164_1 : w56.cell? ⟨gb168, 1, none⟩ = some (.slice none 0 0) := (blk_cell BK168.out 1).trans rfl
     have hfz164_0 := blk_frozen BK168.out 0
     have hfz164_1 := blk_frozen BK168.out 1
     try go_wp2
     refine bodyPost_ret (results_ct rfl _ _ gb168 26 #[.slice none 0 0, .slice none 0 0] (0, 0) _ rfl (by refine kU ?_; refine blk_put (cs := #[.slice none 0 0, .slice none 0 0]) ?_ 1 _ rfl; refine kU ?_; refine blk_put (cs := #[.slice none 0 0, .slice none 0 0]) ?_ 0 _ rfl; refine kU ?_; refine blk_far ?_ NB168_185.out _; refine kU ?_; refine blk_far ?_ NB168_185.out _; refine kU ?_; refine blk_far ?_ NB168_184.out _; refine kU ?_; refine blk_far ?_ NB168_184.out _; refine kU ?_; exact BK168.out) Try.underlying26 rfl (by kernel_rfl)) rfl ?_
     exact ⟨_, _, by first | rfl | (simp [errW_none, errW_some] <;> rfl) | (simp [*, errW_none, errW_some] <;> rfl), Kd.V_mono (Kd.R_V (Kd.R_nil _ _ _ 0 (fun _ => False))) (fun _ hk => hk.elim), Kd.V_mono (Kd.R_V (Kd.R_nil _ _ _ 0 (fun _ => False))) (fun _ hk => hk.elim), by exact bS6 HB.out GE166.out GE167.out GE168.out GE169.out GE184.out GE185.out⟩⟩
end Go.Proofs.Ytcnbajdnlkcjjaa.PFnExactJoin
