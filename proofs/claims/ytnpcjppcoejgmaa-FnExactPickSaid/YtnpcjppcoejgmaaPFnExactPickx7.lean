/- The walk of what a law reaches, for the law's row: written by a program of this session; it has no condition of its own. -/
import Derived.Test.YtnpcjppcoejgmaaPFnExactPickx0
import Derived.Test.YtnpcjppcoejgmaaQ
import Derived.Test.YtnpcjppcoejgmaaPFnExactPickx5
import Derived.Test.YtnpcjppcoejgmaaPFnExactPickx6
namespace Go.Proofs.Ytnpcjppcoejgmaa.PFnExactPick
open Go.RowKit Go.Proofs.YtnpcjppcoejgmaaW.PrintWords Go.Proofs.YtnpcjppcoejgmaaW.PrintLast Go.Proofs.YtnpcjppcoejgmaaW.PrintMore Go.Proofs.YtnpcjppcoejgmaaQ
attribute [local go_sem] max2_int min2_int max_two min_two max_three min_three max_four min_four   -- for this text's walks alone
set_option linter.unusedVariables false
set_option linter.unusedSimpArgs false

/-! ### impl_Pick: function 15 -/
mutual
def impl_Pick.j0 : Nat → Bool → List Int → List Int → List Int → List Int → Option (List Int × List Int × Int)
 | 0, _, _, _, _, _ => none
 | k + 1, x10, x242000, x242001, x243000, x243001 => if x10 = true then (some (([] : List Int), ([] : List Int), 1)) else (if (x243000.length : Int) = 0 then (some (([] : List Int), ([] : List Int), 4)) else (if (wrap64 ((wrap64 ((x242000.length : Int) + (x243000.length : Int))) - 1)) > 3 then (some (([] : List Int), ([] : List Int), 4)) else ((impl_Rows.f k x243000 x243001).bind fun t246 => (if 1 ≤ (x243000.length : Int) then ((slices_Concat_int_int.f k (([x242000, (x243000.drop 1)] : List (List Int)))).bind fun t257 => (impl_Pick.l0 k t246 x242001 (x242001.length : Int) 0 t257 ([] : List Int))) else (none)))))
def impl_Pick.l0 : Nat → List (S28) → List Int → Int → Int → List Int → List Int → Option (List Int × List Int × Int)
 | 0, _, _, _, _, _, _ => none
 | k + 1, x6, x48, x49, x50, x261000, x261001 => if x50 < x49 then (if 0 ≤ x50 then (if x50 < (x48.length : Int) then (if (rd x48 x50) < 0 then ((impl_within.f (wrap64 ((rd x48 x50) + (x6.length : Int))) 0 (wrap64 ((x6.length : Int) - 1))).bind fun t263 => (if t263 = true then (if 0 ≤ (wrap64 ((rd x48 x50) + (x6.length : Int))) then (if (wrap64 ((rd x48 x50) + (x6.length : Int))) < (x6.length : Int) then (if x261001.length + ((rd_T28 x6 (wrap64 ((rd x48 x50) + (x6.length : Int)))).f1).length < 17592186044416 then (impl_Pick.l0 k x6 x48 x49 (wrap64 (x50 + 1)) x261000 (x261001 ++ ((rd_T28 x6 (wrap64 ((rd x48 x50) + (x6.length : Int)))).f1))) else (none)) else (none)) else (none)) else (some (([] : List Int), ([] : List Int), 5)))) else ((impl_within.f (rd x48 x50) 0 (wrap64 ((x6.length : Int) - 1))).bind fun t268 => (if t268 = true then (if 0 ≤ (rd x48 x50) then (if (rd x48 x50) < (x6.length : Int) then (if x261001.length + ((rd_T28 x6 (rd x48 x50)).f1).length < 17592186044416 then (impl_Pick.l0 k x6 x48 x49 (wrap64 (x50 + 1)) x261000 (x261001 ++ ((rd_T28 x6 (rd x48 x50)).f1))) else (none)) else (none)) else (none)) else (some (([] : List Int), ([] : List Int), 5))))) else (none)) else (none)) else ((impl_ArrayOk.f k x261000 x261001).bind fun t261 => (if t261 = true then (some (x261000, x261001, 0)) else (some (([] : List Int), ([] : List Int), 6))))
end
def impl_Pick.f (k : Nat) (l0_0 : List Int) (l0_1 : List Int) (l1_0 : List Int) (l1_1 : List Int) : Option (List Int × List Int × Int) := (impl_ArrayOk.f k l0_0 l0_1).bind fun t244 => (if t244 = true then ((impl_ArrayOk.f k l1_0 l1_1).bind fun t245 => (impl_Pick.j0 k (!t245) l0_0 l0_1 l1_0 l1_1)) else (impl_Pick.j0 k true l0_0 l0_1 l1_0 l1_1))
def impl_Pick.T6 : Bool × List (List Nat × List Nat) := (true, [([], []), ([0], [0]), ([], []), ([2], [2]), ([3], [3]), ([1, 4], [1, 4]), ([5], [5]), ([6], [6]), ([], []), ([8, 7, 6, 0, 1, 2, 3, 4, 5, 6, 7, 8], [7, 8])])
def impl_Pick.B6 : List Nat := [0, 1, 0, 4, 12, 31, 63, 127, 0, 511]
theorem impl_Pick.tab6 : rtab .any (opsOf Try.f15 6) = impl_Pick.T6 := by kernel_rfl
theorem impl_Pick.bits6 : waitsOk impl_Pick.T6.2 impl_Pick.B6 = true := by kernel_rfl
def impl_Pick.T14 : Bool × List (List Nat × List Nat) := (true, [([], []), ([0], [0]), ([], []), ([], []), ([2, 3], [2, 3]), ([4], [4]), ([5], [5]), ([1, 6], [1, 6]), ([0, 1, 2, 3, 4, 5, 6, 7], []), ([8, 7, 7, 0, 1, 2, 3, 4, 5, 6, 7], [7, 8])])
def impl_Pick.B14 : List Nat := [0, 1, 0, 0, 12, 28, 60, 127, 255, 511]
theorem impl_Pick.tab14 : rtab .any (opsOf Try.f15 14) = impl_Pick.T14 := by kernel_rfl
theorem impl_Pick.bits14 : waitsOk impl_Pick.T14.2 impl_Pick.B14 = true := by kernel_rfl
set_option maxHeartbeats 8000000 in
set_option maxRecDepth 100000 in
theorem impl_Pick.calls (k : Nat) (P0_0_ : Nat → Prop) (A0_0 : Option Addr) (c0_0 : Nat) (l0_0 : List Int) (A0_1 : Option Addr) (c0_1 : Nat) (l0_1 : List Int) (P1_0_ : Nat → Prop) (A1_0 : Option Addr) (c1_0 : Nat) (l1_0 : List Int) (A1_1 : Option Addr) (c1_1 : Nat) (l1_1 : List Int) (r1 : List Int) (r2 : List Int) (r3 : Int) (w : World) (hs0_0 : Kd.V (Kd.int .i64) 3 w w.heap.size (fun k_ => P0_0_ k_) (.slice A0_0 l0_0.length c0_0) l0_0) (hr0_1 : Kd.C (Kd.int .i64) w A0_1 l0_1.length l0_1) (hc0_1 : l0_1.length ≤ c0_1) (hs1_0 : Kd.V (Kd.int .i64) 3 w w.heap.size (fun k_ => P1_0_ k_) (.slice A1_0 l1_0.length c1_0) l1_0) (hr1_1 : Kd.C (Kd.int .i64) w A1_1 l1_1.length l1_1) (hc1_1 : l1_1.length ≤ c1_1) (h : impl_Pick.f k l0_0 l0_1 l1_0 l1_1 = some (r1, r2, r3)) :
  Calls Try.prog 15 #[.agg #[.slice A0_0 l0_0.length c0_0, .slice A0_1 l0_1.length c0_1], .agg #[.slice A1_0 l1_0.length c1_0, .slice A1_1 l1_1.length c1_1]] w fun e w' => ∃ v0_ v1_ : Value, e = .returned (.tuple #[.agg #[v0_, v1_], .int .i64 r3]) ∧ Kd.R (Kd.int .i64) 3 w' w.heap.size (fun k_ => (w.heap.size ≤ k_) ∧ some k_ ≠ (v1_ : Value).ownBlock) v0_ r1 ∧ Kd.R (Kd.int .i64) 3 w' w.heap.size (fun k_ => (w.heap.size ≤ k_) ∧ some k_ ≠ (v0_ : Value).ownBlock) v1_ r2 ∧ Below w.heap.size w w' := by
 have hu28 := Try.underlying28
 have HO0_0 := Aside0.mk (show Kd.V (Kd.int .i64) 3 w w.heap.size (fun k_ => ((P0_0_ k_ ∨ P1_0_ k_) ∨ w.heap.size ≤ k_)) (.slice A0_0 l0_0.length c0_0) l0_0 from Kd.V_mono hs0_0 (fun k_ hk => .inl (.inl hk)))
 have HR0_1 := Aside0.mk hr0_1
 have HC0_1 := Aside0.mk hc0_1
 clear hr0_1 hc0_1
 have HO1_0 := Aside0.mk (show Kd.V (Kd.int .i64) 3 w w.heap.size (fun k_ => ((P0_0_ k_ ∨ P1_0_ k_) ∨ w.heap.size ≤ k_)) (.slice A1_0 l1_0.length c1_0) l1_0 from Kd.V_mono hs1_0 (fun k_ hk => .inl (.inr hk)))
 have HR1_1 := Aside0.mk hr1_1
 have HC1_1 := Aside0.mk hc1_1
 clear hr1_1 hc1_1
 have HB := Aside0.mk (Below.refl w.heap.size w)
 have H : ((impl_ArrayOk.f k l0_0 l0_1).bind fun t244 => (if t244 = true then ((impl_ArrayOk.f k l1_0 l1_1).bind fun t245 => (impl_Pick.j0 k (!t245) l0_0 l0_1 l1_0 l1_1)) else (impl_Pick.j0 k true l0_0 l0_1 l1_0 l1_1))) = some (r1, r2, r3) := h
 clear h
 have HC3 := Aside0.mk H
 clear H
 go_enter Try.func15, Try.ntmps15
 go_upto_region 1 with (first | ((with_reducible refine gate_dst (N := 2) rfl ?_); (try (refine gate_guard (by rfl) ?_; dsimp only)); refine box_event ?hg (N := 2) ?hd (cs := #[.slice A0_0 l0_0.length c0_0, .slice A0_1 l0_1.length c0_1]) (t := 28) ?hr ?_; (case hd => rfl); (case hg => rfl); (case hr => first | (go_simp; done) | (go_simp; rfl)); intro gb241 hg w4 hbox hb; replace HO0_0 := Aside0.mk (Kd.V_below (Kd.V_elderB (VU HO0_0.out) gb241 (Nat.le_of_eq hg.symm)) hb); replace HO1_0 := Aside0.mk (Kd.V_below (Kd.V_elderB (VU HO1_0.out) gb241 (Nat.le_of_eq hg.symm)) hb); have BK241 := Aside0.mk (hbox); have GW241 := Aside0.mk ((by rw [hg]; exact (below_size (bU HB.out)) : w.heap.size ≤ gb241)); have GE241 := Aside0.mk ((by rw [hg]; exact (below_size (bU HB.out)) : w.heap.size ≤ gb241)); replace HB := Aside0.mk (below_step (bU HB.out) hb); clear hb hbox hg) | ((with_reducible refine gate_dst (N := 3) rfl ?_); (try (refine gate_guard (by rfl) ?_; dsimp only)); refine box_event ?hg (N := 3) ?hd (cs := #[.slice A1_0 l1_0.length c1_0, .slice A1_1 l1_1.length c1_1]) (t := 28) ?hr ?_; (case hd => rfl); (case hg => rfl); (case hr => first | (go_simp; done) | (go_simp; rfl)); intro gb242 hg w5 hbox hb; replace HO0_0 := Aside0.mk (Kd.V_below (Kd.V_elderB (VU HO0_0.out) gb242 (Nat.le_of_eq hg.symm)) hb); replace HO1_0 := Aside0.mk (Kd.V_below (Kd.V_elderB (VU HO1_0.out) gb242 (Nat.le_of_eq hg.symm)) hb); have BK242 := Aside0.mk (hbox); have GW242 := Aside0.mk ((by rw [hg]; exact (below_size (bS1 HB.out GE241.out)) : w.heap.size ≤ gb242)); have GE242 := Aside0.mk ((by rw [hg]; exact (below_size (bS1 HB.out GE241.out)) : w.heap.size ≤ gb242)); replace HB := Aside0.mk (below_step (bS1 HB.out GE241.out) hb); have NB241_242 := Aside0.mk (kN BK241.out hg); have NB242_241 := Aside0.mk (kM BK241.out hg); replace BK241 := Aside0.mk (kB BK241.out hb); clear hb hbox hg) | ((with_reducible refine gate_dst (N := 4) rfl ?_); (try (refine gate_guard (by rfl) ?_; dsimp only)); refine box_event ?hg (N := 4) ?hd (cs := #[.slice none 0 0, .slice none 0 0]) (t := 28) ?hr ?_; (case hd => rfl); (case hg => rfl); (case hr => first | (go_simp; done) | (go_simp; rfl)); intro gb243 hg w6 hbox hb; replace HO0_0 := Aside0.mk (Kd.V_below (Kd.V_elderB (VU HO0_0.out) gb243 (Nat.le_of_eq hg.symm)) hb); replace HO1_0 := Aside0.mk (Kd.V_below (Kd.V_elderB (VU HO1_0.out) gb243 (Nat.le_of_eq hg.symm)) hb); have BK243 := Aside0.mk (hbox); have GW243 := Aside0.mk ((by rw [hg]; exact (below_size (bS2 HB.out GE241.out GE242.out)) : w.heap.size ≤ gb243)); have GE243 := Aside0.mk ((by rw [hg]; exact (below_size (bS2 HB.out GE241.out GE242.out)) : w.heap.size ≤ gb243)); replace HB := Aside0.mk (below_step (bS2 HB.out GE241.out GE242.out) hb); have NB241_243 := Aside0.mk (kN BK241.out hg); have NB243_241 := Aside0.mk (kM BK241.out hg); replace BK241 := Aside0.mk (kB BK241.out hb); have NB242_243 := Aside0.mk (kN BK242.out hg); have NB243_242 := Aside0.mk (kM BK242.out hg); replace BK242 := Aside0.mk (kB BK242.out hb); clear hb hbox hg))
 (try simp only [Act.put, List.setIfInBounds_toArray, List.set_cons_zero, List.set_cons_succ])
 go_cut [10] (fun v10 wc => ∃ (kq : Nat) (x10_2 : Bool), v10 = .bool x10_2 ∧ Aside0 (impl_Pick.j0 kq x10_2 l0_0 l0_1 l1_0 l1_1 = some (r1, r2, r3)) ∧ Aside0 (kq ≤ k) ∧ Aside0 (Kd.V (Kd.int .i64) 3 wc w.heap.size (fun k_ => ((P0_0_ k_ ∨ P1_0_ k_) ∨ w.heap.size ≤ k_) ∧ k_ ≠ gb241 ∧ k_ ≠ gb242 ∧ k_ ≠ gb243) (.slice A0_0 l0_0.length c0_0) l0_0) ∧ Aside0 (Kd.V (Kd.int .i64) 3 wc w.heap.size (fun k_ => ((P0_0_ k_ ∨ P1_0_ k_) ∨ w.heap.size ≤ k_) ∧ k_ ≠ gb241 ∧ k_ ≠ gb242 ∧ k_ ≠ gb243) (.slice A1_0 l1_0.length c1_0) l1_0) ∧ Aside0 (wc.heap[gb241]? = some (.cells #[(.slice A0_0 l0_0.length c0_0), (.slice A0_1 l0_1.length c0_1)] 28 (0, 0))) ∧ Aside0 (wc.heap[gb242]? = some (.cells #[(.slice A1_0 l1_0.length c1_0), (.slice A1_1 l1_1.length c1_1)] 28 (0, 0))) ∧ Aside0 (wc.heap[gb243]? = some (.cells #[(.slice none 0 0), (.slice none 0 0)] 28 (0, 0))) ∧ Aside0 (Below w.heap.size w wc))
 case first =>
  have H := HC3.out
  clear HC3
  replace H := Option.bind_eq_some_iff.mp H
  obtain ⟨t244, A70, H⟩ := H
  replace H : (if t244 = true then ((impl_ArrayOk.f k l1_0 l1_1).bind fun t245 => (impl_Pick.j0 k (!t245) l0_0 l0_1 l1_0 l1_1)) else (impl_Pick.j0 k true l0_0 l0_1 l1_0 l1_1)) = some (r1, r2, r3) := H
  have A7 := Aside0.mk A70
  clear A70
  by_cases c8 : t244 = true
  ·
   subst c8
   have H1 : ((impl_ArrayOk.f k l1_0 l1_1).bind fun t245 => (impl_Pick.j0 k (!t245) l0_0 l0_1 l1_0 l1_1)) = some (r1, r2, r3) := by rw [if_pos rfl] at H; exact H
   clear H
   have H := H1
   clear H1
   replace H := Option.bind_eq_some_iff.mp H
   obtain ⟨t245, A90, H⟩ := H
   replace H : (impl_Pick.j0 k (!t245) l0_0 l0_1 l1_0 l1_1) = some (r1, r2, r3) := H
   have A9 := Aside0.mk A90
   clear A90
   have H' := Aside0.mk H
   clear H
   have hnb10 := NB241_242.out
   have hnc10 := NB242_241.out
   have hnb11 := NB241_243.out
   have hnc11 := NB243_241.out
   have hcz12_0 : w6.cell? ⟨gb241, 0, none⟩ = some (.slice A0_0 l0_0.length c0_0) := (blk_cell BK241.out 0).trans rfl
   have hcz12_1 : w6.cell? ⟨gb241, 1, none⟩ = some (.slice A0_1 l0_1.length c0_1) := (blk_cell BK241.out 1).trans rfl
   have hfz12_0 := blk_frozen BK241.out 0
   have hfz12_1 := blk_frozen BK241.out 1
   go_wp2_with (first | ((with_reducible refine gate_callee (f := 21) rfl ?_); refine goesL_ (some 12) rfl rfl Try.func21 (by kernel_rfl) rfl #[.agg #[.slice A0_0 l0_0.length c0_0, .slice A0_1 l0_1.length c0_1]] rfl lU ?_; (with_reducible refine (impl_ArrayOk.calls k _ _ l0_0 _ _ l0_1 true _ ?side1 ?side2 ?side3 ?side4 A7.out).mono ?_); (case side1 => exact cU (Kd.V_reads' HO0_0.out).2.2); (case side2 => exact (Kd.V_reads' HO0_0.out).2.1); (case side3 => exact cU (Kd.C_below HR0_1.out HB.out)); (case side4 => exact HC0_1.out); rintro e w13 ⟨rfl, hb⟩; refine ⟨_, rfl, ?_⟩; replace HO0_0 := Aside0.mk (Kd.V_below (VU HO0_0.out) hb); replace HO1_0 := Aside0.mk (Kd.V_below (VU HO1_0.out) hb); replace BK241 := Aside0.mk (kB BK241.out hb); replace BK242 := Aside0.mk (kB BK242.out hb); replace BK243 := Aside0.mk (kB BK243.out hb); replace HB := Aside0.mk (below_step (bS3 HB.out GE241.out GE242.out GE243.out) hb); (try clear hb); (try clear hb2); (try clear hk); (try clear hi); have hnb14 := NB242_243.out; have hnc14 := NB243_242.out; have hcz15_0 : w13.cell? ⟨gb242, 0, none⟩ = some (.slice A1_0 l1_0.length c1_0) := (blk_cell BK242.out 0).trans rfl; have hcz15_1 : w13.cell? ⟨gb242, 1, none⟩ = some (.slice A1_1 l1_1.length c1_1) := (blk_cell BK242.out 1).trans rfl; have hfz15_0 := blk_frozen BK242.out 0; have hfz15_1 := blk_frozen BK242.out 1) | (go_at_call 21; (repeat rw [i64_w]); (with_reducible refine (impl_ArrayOk.calls k _ _ l1_0 _ _ l1_1 t245 _ ?side1 ?side2 ?side3 ?side4 A9.out).mono ?_); (case side1 => exact cU (Kd.V_reads' HO1_0.out).2.2); (case side2 => exact (Kd.V_reads' HO1_0.out).2.1); (case side3 => exact cU (Kd.C_below HR1_1.out HB.out)); (case side4 => exact HC1_1.out); rintro e w16 ⟨rfl, hb⟩; replace HO0_0 := Aside0.mk (Kd.V_below (VU HO0_0.out) hb); replace HO1_0 := Aside0.mk (Kd.V_below (VU HO1_0.out) hb); replace BK241 := Aside0.mk (kB BK241.out hb); replace BK242 := Aside0.mk (kB BK242.out hb); replace BK243 := Aside0.mk (kB BK243.out hb); replace HB := Aside0.mk (below_step (bS3 HB.out GE241.out GE242.out GE243.out) hb); (try clear hb); (try clear hb2); (try clear hk); (try clear hi)))
   go_meet
   case rel => exact ⟨_, (!t245), (by first | rfl | (simp; done) | (simp [*]; done)), H', ⟨by first | omega | exact Nat.le_refl _⟩, ⟨by refine VU ?_; exact Kd.V_mono HO0_0.out (fun _ hk => ⟨hk.1.1.1, ⟨hk.1.1.2, ⟨hk.1.2, hk.2⟩⟩⟩)⟩, ⟨by refine VU ?_; exact Kd.V_mono HO1_0.out (fun _ hk => ⟨hk.1.1.1, ⟨hk.1.1.2, ⟨hk.1.2, hk.2⟩⟩⟩)⟩, ⟨by refine kU ?_; exact BK241.out⟩, ⟨by refine kU ?_; exact BK242.out⟩, ⟨by refine kU ?_; exact BK243.out⟩, ⟨by exact bS3 HB.out GE241.out GE242.out GE243.out⟩⟩
  ·
   replace c8 := Bool.eq_false_iff.mpr c8
   subst c8
   have H1 : (impl_Pick.j0 k true l0_0 l0_1 l1_0 l1_1) = some (r1, r2, r3) := by rw [if_neg (show ¬ (false = true) by decide)] at H; exact H
   clear H
   have H := H1
   clear H1
   have H' := Aside0.mk H
   clear H
   have hnb17 := NB241_242.out
   have hnc17 := NB242_241.out
   have hnb18 := NB241_243.out
   have hnc18 := NB243_241.out
   have hcz19_0 : w6.cell? ⟨gb241, 0, none⟩ = some (.slice A0_0 l0_0.length c0_0) := (blk_cell BK241.out 0).trans rfl
   have hcz19_1 : w6.cell? ⟨gb241, 1, none⟩ = some (.slice A0_1 l0_1.length c0_1) := (blk_cell BK241.out 1).trans rfl
   have hfz19_0 := blk_frozen BK241.out 0
   have hfz19_1 := blk_frozen BK241.out 1
   go_wp2_with (first | ((with_reducible refine gate_callee (f := 21) rfl ?_); refine goesL_ (some 12) rfl rfl Try.func21 (by kernel_rfl) rfl #[.agg #[.slice A0_0 l0_0.length c0_0, .slice A0_1 l0_1.length c0_1]] rfl lU ?_; (with_reducible refine (impl_ArrayOk.calls k _ _ l0_0 _ _ l0_1 false _ ?side1 ?side2 ?side3 ?side4 A7.out).mono ?_); (case side1 => exact cU (Kd.V_reads' HO0_0.out).2.2); (case side2 => exact (Kd.V_reads' HO0_0.out).2.1); (case side3 => exact cU (Kd.C_below HR0_1.out HB.out)); (case side4 => exact HC0_1.out); rintro e w20 ⟨rfl, hb⟩; refine ⟨_, rfl, ?_⟩; replace HO0_0 := Aside0.mk (Kd.V_below (VU HO0_0.out) hb); replace HO1_0 := Aside0.mk (Kd.V_below (VU HO1_0.out) hb); replace BK241 := Aside0.mk (kB BK241.out hb); replace BK242 := Aside0.mk (kB BK242.out hb); replace BK243 := Aside0.mk (kB BK243.out hb); replace HB := Aside0.mk (below_step (bS3 HB.out GE241.out GE242.out GE243.out) hb); (try clear hb); (try clear hb2); (try clear hk); (try clear hi)))
   go_meet
   case rel => exact ⟨_, (true), (by first | rfl | (simp; done) | (simp [*]; done)), H', ⟨by first | omega | exact Nat.le_refl _⟩, ⟨by refine VU ?_; exact Kd.V_mono HO0_0.out (fun _ hk => ⟨hk.1.1.1, ⟨hk.1.1.2, ⟨hk.1.2, hk.2⟩⟩⟩)⟩, ⟨by refine VU ?_; exact Kd.V_mono HO1_0.out (fun _ hk => ⟨hk.1.1.1, ⟨hk.1.1.2, ⟨hk.1.2, hk.2⟩⟩⟩)⟩, ⟨by refine kU ?_; exact BK241.out⟩, ⟨by refine kU ?_; exact BK242.out⟩, ⟨by refine kU ?_; exact BK243.out⟩, ⟨by exact bS3 HB.out GE241.out GE242.out GE243.out⟩⟩
 case rest =>
  clear HC3
  try clear c1
  try clear c2
  try clear p2
  try clear c8
  try clear c10
  try clear c11
  try clear c14
  try clear c15
  try clear c17
  try clear c18
  try clear hcz12_0
  try clear hcz12_1
  try clear hcz15_0
  try clear hcz15_1
  try clear hcz19_0
  try clear hcz19_1
  try clear hfz12_0
  try clear hfz12_1
  try clear hfz15_0
  try clear hfz15_1
  try clear hfz19_0
  try clear hfz19_1
  obtain ⟨kq, x10_2, rfl, HA, HJ2, HO_242000, HO_243000, BK241, BK242, BK243, HB⟩ := hcut
  cases kq with
  | zero => exact absurd HA.out (by simp [impl_Pick.j0])
  | succ kj2 =>
   have H := HA.out
   clear HA
   simp only [impl_Pick.j0] at H
   by_cases c21 : x10_2 = true
   ·
    subst c21
    have H1 : (some (([] : List Int), ([] : List Int), 1)) = some (r1, r2, r3) := by rw [if_pos rfl] at H; exact H
    clear H
    have H := H1
    clear H1
    simp only [Option.some.injEq, Prod.mk.injEq] at H
    obtain ⟨rfl, rfl, rfl⟩ := H
    have hnb22 := NB243_241.out
    have hnc22 := NB241_243.out
    have hnb23 := NB243_242.out
    have hnc23 := NB242_243.out
    have hcz24_0 : wc.cell? ⟨gb243, 0, none⟩ = some (.slice none 0 0) := (blk_cell BK243.out 0).trans rfl
    have hcz24_1 : wc.cell? ⟨gb243, 1, none⟩ = some (.slice none 0 0) := (blk_cell BK243.out 1).trans rfl
    have hfz24_0 := blk_frozen BK243.out 0
    have hfz24_1 := blk_frozen BK243.out 1
    go_wp2
    refine bodyPost_ret (results_ct rfl _ _ gb243 28 #[.slice none 0 0, .slice none 0 0] (0, 0) _ rfl (by refine kU ?_; refine blk_put (cs := #[.slice none 0 0, .slice none 0 0]) ?_ 1 _ rfl; refine kU ?_; refine blk_put (cs := #[.slice none 0 0, .slice none 0 0]) ?_ 0 _ rfl; refine kU ?_; exact BK243.out) Try.underlying28 rfl (by kernel_rfl)) rfl ?_
    exact ⟨_, _, by first | rfl | (simp [errW_none, errW_some] <;> rfl) | (simp [*, errW_none, errW_some] <;> rfl), by first | exact Kd.R_nil _ _ _ _ _ | exact Kd.N_nil _ _ _ _ _ | exact Kd.V_nil _ _ _ _ _ | exact Kd.Q_nil _ _ _ _ _ | exact Kd.S_nil _ _ _ _ _, by first | exact Kd.R_nil _ _ _ _ _ | exact Kd.N_nil _ _ _ _ _ | exact Kd.V_nil _ _ _ _ _ | exact Kd.Q_nil _ _ _ _ _ | exact Kd.S_nil _ _ _ _ _, by exact bS3 HB.out GE241.out GE242.out GE243.out⟩
   ·
    replace c21 := Bool.eq_false_iff.mpr c21
    subst c21
    have H1 : (if (l1_0.length : Int) = 0 then (some (([] : List Int), ([] : List Int), 4)) else (if (wrap64 ((wrap64 ((l0_0.length : Int) + (l1_0.length : Int))) - 1)) > 3 then (some (([] : List Int), ([] : List Int), 4)) else ((impl_Rows.f kj2 l1_0 l1_1).bind fun t246 => (if 1 ≤ (l1_0.length : Int) then ((slices_Concat_int_int.f kj2 (([l0_0, (l1_0.drop 1)] : List (List Int)))).bind fun t257 => (impl_Pick.l0 kj2 t246 l0_1 (l0_1.length : Int) 0 t257 ([] : List Int))) else (none))))) = some (r1, r2, r3) := by rw [if_neg (show ¬ (false = true) by decide)] at H; exact H
    clear H
    have H := H1
    clear H1
    by_cases c25 : (l1_0.length : Int) = 0
    ·
     rw [if_pos c25] at H
     have c25b0 : ((l1_0.length : Int) == 0) = true := beq_iff_eq.mpr c25
     have c25b1 : ((l1_0.length : Int) != 0) = false := bne_eq_false_iff_eq.mpr c25
     clear c25
     simp only [Option.some.injEq, Prod.mk.injEq] at H
     obtain ⟨rfl, rfl, rfl⟩ := H
     have hnb26 := NB242_241.out
     have hnc26 := NB241_242.out
     have hnb27 := NB242_243.out
     have hnc27 := NB243_242.out
     have hcz28_0 : wc.cell? ⟨gb242, 0, none⟩ = some (.slice A1_0 l1_0.length c1_0) := (blk_cell BK242.out 0).trans rfl
     have hcz28_1 : wc.cell? ⟨gb242, 1, none⟩ = some (.slice A1_1 l1_1.length c1_1) := (blk_cell BK242.out 1).trans rfl
     have hfz28_0 := blk_frozen BK242.out 0
     have hfz28_1 := blk_frozen BK242.out 1
     have hnb29 := NB243_241.out
     have hnc29 := NB241_243.out
     have hcz30_0 : wc.cell? ⟨gb243, 0, none⟩ = some (.slice none 0 0) := (blk_cell BK243.out 0).trans rfl
     have hcz30_1 : wc.cell? ⟨gb243, 1, none⟩ = some (.slice none 0 0) := (blk_cell BK243.out 1).trans rfl
     have hfz30_0 := blk_frozen BK243.out 0
     have hfz30_1 := blk_frozen BK243.out 1
     go_wp2
     refine bodyPost_ret (results_ct rfl _ _ gb243 28 #[.slice none 0 0, .slice none 0 0] (0, 0) _ rfl (by refine kU ?_; refine blk_put (cs := #[.slice none 0 0, .slice none 0 0]) ?_ 1 _ rfl; refine kU ?_; refine blk_put (cs := #[.slice none 0 0, .slice none 0 0]) ?_ 0 _ rfl; refine kU ?_; exact BK243.out) Try.underlying28 rfl (by kernel_rfl)) rfl ?_
     exact ⟨_, _, by first | rfl | (simp [errW_none, errW_some] <;> rfl) | (simp [*, errW_none, errW_some] <;> rfl), by first | exact Kd.R_nil _ _ _ _ _ | exact Kd.N_nil _ _ _ _ _ | exact Kd.V_nil _ _ _ _ _ | exact Kd.Q_nil _ _ _ _ _ | exact Kd.S_nil _ _ _ _ _, by first | exact Kd.R_nil _ _ _ _ _ | exact Kd.N_nil _ _ _ _ _ | exact Kd.V_nil _ _ _ _ _ | exact Kd.Q_nil _ _ _ _ _ | exact Kd.S_nil _ _ _ _ _, by exact bS3 HB.out GE241.out GE242.out GE243.out⟩
    ·
     rw [if_neg c25] at H
     have c25b0 : ((l1_0.length : Int) == 0) = false := beq_eq_false_iff_ne.mpr c25
     have c25b1 : ((l1_0.length : Int) != 0) = true := bne_iff_ne.mpr c25
     have c25b2 : ¬ (l1_0 = []) := fun h_ => c25 (by rw [h_]; rfl)
     by_cases c31 : (wrap64 ((wrap64 ((l0_0.length : Int) + (l1_0.length : Int))) - 1)) > 3
     ·
      rw [if_pos c31] at H
      have c31b0 : decide (3 < (wrap64 ((wrap64 ((l0_0.length : Int) + (l1_0.length : Int))) - 1))) = true := decide_eq_true c31
      clear c31
      simp only [Option.some.injEq, Prod.mk.injEq] at H
      obtain ⟨rfl, rfl, rfl⟩ := H
      have hnb32 := NB242_241.out
      have hnc32 := NB241_242.out
      have hnb33 := NB242_243.out
      have hnc33 := NB243_242.out
      have hcz34_0 : wc.cell? ⟨gb242, 0, none⟩ = some (.slice A1_0 l1_0.length c1_0) := (blk_cell BK242.out 0).trans rfl
      have hcz34_1 : wc.cell? ⟨gb242, 1, none⟩ = some (.slice A1_1 l1_1.length c1_1) := (blk_cell BK242.out 1).trans rfl
      have hfz34_0 := blk_frozen BK242.out 0
      have hfz34_1 := blk_frozen BK242.out 1
      have hnb35 := NB241_243.out
      have hnc35 := NB243_241.out
      have hcz36_0 : wc.cell? ⟨gb241, 0, none⟩ = some (.slice A0_0 l0_0.length c0_0) := (blk_cell BK241.out 0).trans rfl
      have hcz36_1 : wc.cell? ⟨gb241, 1, none⟩ = some (.slice A0_1 l0_1.length c0_1) := (blk_cell BK241.out 1).trans rfl
      have hfz36_0 := blk_frozen BK241.out 0
      have hfz36_1 := blk_frozen BK241.out 1
      have hcz37_0 : wc.cell? ⟨gb243, 0, none⟩ = some (.slice none 0 0) := (blk_cell BK243.out 0).trans rfl
      have hcz37_1 : wc.cell? ⟨gb243, 1, none⟩ = some (.slice none 0 0) := (blk_cell BK243.out 1).trans rfl
      have hfz37_0 := blk_frozen BK243.out 0
      have hfz37_1 := blk_frozen BK243.out 1
      go_wp2
      refine bodyPost_ret (results_ct rfl _ _ gb243 28 #[.slice none 0 0, .slice none 0 0] (0, 0) _ rfl (by refine kU ?_; refine blk_put (cs := #[.slice none 0 0, .slice none 0 0]) ?_ 1 _ rfl; refine kU ?_; refine blk_put (cs := #[.slice none 0 0, .slice none 0 0]) ?_ 0 _ rfl; refine kU ?_; exact BK243.out) Try.underlying28 rfl (by kernel_rfl)) rfl ?_
      exact ⟨_, _, by first | rfl | (simp [errW_none, errW_some] <;> rfl) | (simp [*, errW_none, errW_some] <;> rfl), by first | exact Kd.R_nil _ _ _ _ _ | exact Kd.N_nil _ _ _ _ _ | exact Kd.V_nil _ _ _ _ _ | exact Kd.Q_nil _ _ _ _ _ | exact Kd.S_nil _ _ _ _ _, by first | exact Kd.R_nil _ _ _ _ _ | exact Kd.N_nil _ _ _ _ _ | exact Kd.V_nil _ _ _ _ _ | exact Kd.Q_nil _ _ _ _ _ | exact Kd.S_nil _ _ _ _ _, by exact bS3 HB.out GE241.out GE242.out GE243.out⟩
     ·
      rw [if_neg c31] at H
      have c31b0 : decide (3 < (wrap64 ((wrap64 ((l0_0.length : Int) + (l1_0.length : Int))) - 1))) = false := decide_eq_false c31
      clear c31
      replace H := Option.bind_eq_some_iff.mp H
      obtain ⟨t246, A380, H⟩ := H
      replace H : (if 1 ≤ (l1_0.length : Int) then ((slices_Concat_int_int.f kj2 (([l0_0, (l1_0.drop 1)] : List (List Int)))).bind fun t257 => (impl_Pick.l0 kj2 t246 l0_1 (l0_1.length : Int) 0 t257 ([] : List Int))) else (none)) = some (r1, r2, r3) := H
      have A38 := Aside0.mk A380
      clear A380
      by_cases c39 : 1 ≤ (l1_0.length : Int)
      ·
       rw [if_pos c39] at H
       have c39b0 := eq_true c39
       have c39b1 : decide (1 ≤ (l1_0.length : Int)) = true := decide_eq_true c39
       clear c39
       obtain ⟨y249, hy249⟩ : ∃ y_ : List Int, y_ = (l1_0.drop 1) := ⟨_, rfl⟩
       replace H : ((slices_Concat_int_int.f kj2 (([l0_0, y249] : List (List Int)))).bind fun t257 => (impl_Pick.l0 kj2 t246 l0_1 (l0_1.length : Int) 0 t257 ([] : List Int))) = some (r1, r2, r3) := by first | (rw [hy249]; with_reducible exact H) | (have H2_ := (Option.bind_some _ _).symm.trans H; rw [hy249]; with_reducible exact H2_) | (have H2_ := (Option.bind_some _ _).symm.trans H; with_reducible exact H2_) | with_reducible exact H | (rw [hy249]; exact H) | exact H
       have Ny249 := Aside0.mk hy249
       clear hy249
       obtain ⟨y254, hy254⟩ : ∃ y_ : List (List Int), y_ = (([l0_0, y249] : List (List Int))) := ⟨_, rfl⟩
       replace H : ((slices_Concat_int_int.f kj2 y254).bind fun t257 => (impl_Pick.l0 kj2 t246 l0_1 (l0_1.length : Int) 0 t257 ([] : List Int))) = some (r1, r2, r3) := by first | (rw [hy254]; with_reducible exact H) | (have H2_ := (Option.bind_some _ _).symm.trans H; rw [hy254]; with_reducible exact H2_) | (have H2_ := (Option.bind_some _ _).symm.trans H; with_reducible exact H2_) | with_reducible exact H | (rw [hy254]; exact H) | exact H
       have Ny254 := Aside0.mk hy254
       clear hy254
       replace H := Option.bind_eq_some_iff.mp H
       obtain ⟨t257, A400, H⟩ := H
       replace H : (impl_Pick.l0 kj2 t246 l0_1 (l0_1.length : Int) 0 t257 ([] : List Int)) = some (r1, r2, r3) := H
       have A40 := Aside0.mk A400
       clear A400
       have H' := Aside0.mk H
       clear H
       have hnb41 := NB242_241.out
       have hnc41 := NB241_242.out
       have hnb42 := NB242_243.out
       have hnc42 := NB243_242.out
       have hcz43_0 : wc.cell? ⟨gb242, 0, none⟩ = some (.slice A1_0 l1_0.length c1_0) := (blk_cell BK242.out 0).trans rfl
       have hcz43_1 : wc.cell? ⟨gb242, 1, none⟩ = some (.slice A1_1 l1_1.length c1_1) := (blk_cell BK242.out 1).trans rfl
       have hfz43_0 := blk_frozen BK242.out 0
       have hfz43_1 := blk_frozen BK242.out 1
       have hnb44 := NB241_243.out
       have hnc44 := NB243_241.out
       have hcz45_0 : wc.cell? ⟨gb241, 0, none⟩ = some (.slice A0_0 l0_0.length c0_0) := (blk_cell BK241.out 0).trans rfl
       have hcz45_1 : wc.cell? ⟨gb241, 1, none⟩ = some (.slice A0_1 l0_1.length c0_1) := (blk_cell BK241.out 1).trans rfl
       have hfz45_0 := blk_frozen BK241.out 0
       have hfz45_1 := blk_frozen BK241.out 1
       try go_wp2_with (first | ((with_reducible refine gate_callee (f := 8) rfl ?_); refine goesL_ (some 38) rfl rfl Try.func8 (by kernel_rfl) rfl #[.agg #[.slice A1_0 l1_0.length c1_0, .slice A1_1 l1_1.length c1_1]] rfl lU ?_; (with_reducible refine (impl_Rows.calls kj2 _ _ l1_0 _ _ l1_1 t246 _ ?side1 ?side2 ?side3 ?side4 A38.out).mono ?_); (case side1 => exact cU (Kd.V_reads' HO_243000.out).2.2); (case side2 => exact (Kd.V_reads' HO_243000.out).2.1); (case side3 => exact cU (Kd.C_below HR1_1.out HB.out)); (case side4 => exact HC1_1.out); rintro e w46 ⟨v247, rfl, ho0, hb⟩; refine ⟨_, rfl, ?_⟩; replace HO_242000 := Aside0.mk (Kd.V_elder' (VU HO_242000.out) (Kd.S_base ho0) hb); replace HO_243000 := Aside0.mk (Kd.V_elder' (VU HO_243000.out) (Kd.S_base ho0) hb); have HO248 := Aside0.mk (Kd.N_lower (Kd.N_mono (ok' := fun k_ => ((P0_0_ k_ ∨ P1_0_ k_) ∨ w.heap.size ≤ k_) ∧ k_ ≠ gb241 ∧ k_ ≠ gb242 ∧ k_ ≠ gb243) (Kd.S_N (Kd.S_bound ho0)) (fun k_ hk_ => ⟨(.inr (Nat.le_trans (below_size (bS3 HB.out GE241.out GE242.out GE243.out)) hk_.2.1)), (Kd.freshB (g := gb241) (o := .cells #[.slice A0_0 l0_0.length c0_0, .slice A0_1 l0_1.length c0_1] 28 (0, 0)) (kU BK241.out) k_ hk_.2.1), (Kd.freshB (g := gb242) (o := .cells #[.slice A1_0 l1_0.length c1_0, .slice A1_1 l1_1.length c1_1] 28 (0, 0)) (kU BK242.out) k_ hk_.2.1), (Kd.freshB (g := gb243) (o := .cells #[.slice none 0 0, .slice none 0 0] 28 (0, 0)) (kU BK243.out) k_ hk_.2.1)⟩)) (below_size (bS3 HB.out GE241.out GE242.out GE243.out))); replace BK241 := Aside0.mk (kB BK241.out hb); replace BK242 := Aside0.mk (kB BK242.out hb); replace BK243 := Aside0.mk (kB BK243.out hb); replace HB := Aside0.mk (below_step (bS3 HB.out GE241.out GE242.out GE243.out) hb); (try clear hb); (try clear hb2); (try clear hk); (try clear hi); (try clear ho0)))
       replace HO_242000 := Aside0.mk (Kd.V_drew HO_242000.out)
       replace HO_243000 := Aside0.mk (Kd.V_drew HO_243000.out)
       replace HO248 := Aside0.mk (Kd.N_drew HO248.out)
       replace BK241 := Aside0.mk (blk_drew BK241.out)
       replace BK242 := Aside0.mk (blk_drew BK242.out)
       replace BK243 := Aside0.mk (blk_drew BK243.out)
       replace HB := Aside0.mk (below_drew1 HB.out)
       have q48 : (1 : Int) ≤ ((l1_0.length : Int) : Int) := of_decide_eq_true (by first | (with_reducible assumption) | assumption)
       obtain ⟨i048, hi048, _, hsz48, _⟩ := info_parts info3
       have hroom48 : l1_0.length ≤ c1_0 := (Kd.V_reads' HO_243000.out).2.1
       have hC48 : Kd.F (Kd.int .i64) _ _ A1_0 l1_0.length l1_0 := (Kd.V_at (base := w.heap.size) HO_243000.out).2.2
       have hcut48 := cut_from (P := Try.prog) 22 3 .i64 Try.underlying22 hi048 1 hsz48 A1_0 l1_0.length c1_0 1 (by omega) q48
       have hr48 := Kd.F_cut (m := (1 : Int).toNat) (c := c1_0) hC48 (by omega) hroom48
       obtain ⟨A48, hA48⟩ : ∃ A1, A1 = (if c1_0 = (1 : Int).toNat then A1_0 else (A1_0 : Option Addr).map (·.add ((1 : Int).toNat * 1))) := ⟨_, rfl⟩
       obtain ⟨c48, hc48⟩ : ∃ c1, c1 = c1_0 - (1 : Int).toNat := ⟨_, rfl⟩
       have hy48 : y249.length = l1_0.length - (1 : Int).toNat := (by rw [Ny249.out, List.length_drop] <;> omega)
       rw [show (l1_0).drop (1 : Int).toNat = y249 from Ny249.out.symm] at hr48
       replace hr48 : Kd.F (Kd.int .i64) _ _ A48 y249.length y249 := (by rw [hA48]; exact hr48)
       rw [← hy48, ← hA48, ← hc48] at hcut48
       have HO253 := Aside0.mk (show Kd.V (Kd.int .i64) 3 _ w.heap.size _ (.slice A48 y249.length c48) y249 from Kd.V_mk (by rw [hy48, hc48]; exact Nat.sub_le_sub_right hroom48 _) hr48)
       have HC253 := Aside0.mk (show y249.length ≤ c48 from by rw [hy48, hc48]; exact Nat.sub_le_sub_right hroom48 _)
       clear hr48 hC48 hroom48 hi048 hsz48 hc48
       have KY48 := Aside0.mk hy48
       have KA48 := Aside0.mk hA48
       clear hy48 hA48
       replace q48 := eq_true q48
       refine start_ (n := 10) (S := fun w' => w'.cell? ⟨gb241, 0, none⟩ = some (.slice A0_0 l0_0.length c0_0) ∧ w'.cell? ⟨gb241, 1, none⟩ = some (.slice A0_1 l0_1.length c0_1) ∧ w'.cell? ⟨gb242, 0, none⟩ = some (.slice A1_0 l1_0.length c1_0) ∧ w'.cell? ⟨gb242, 1, none⟩ = some (.slice A1_1 l1_1.length c1_1)) (ds := []) #[false, false, false, false, false, false, false, false, false, false] (by kernel_rfl) rfl rfl ⟨(blk_cell BK241.out 0).trans rfl, (blk_cell BK241.out 1).trans rfl, (blk_cell BK242.out 0).trans rfl, (blk_cell BK242.out 1).trans rfl⟩ (fun hHeld => ?_); refine with_tabW impl_Pick.tab6 impl_Pick.bits6 (fun HT_ HW_ => ?_)
       generalize w46.drew = w47 at HO_242000 HO_243000 HO248 BK241 BK242 BK243 HB HO253 hHeld ⊢
       refine pure_ (i := 0) (N := some 39) (v := ?_) (a' := ?_) #[true, false, false, false, false, false, false, false, false, false] rfl rfl (any_of HT_.out (by kernel_rfl)) (fun _ _ _ h => h) (Or.inl ⟨by rfl, ?_⟩) ?_ ?_
       rotate_left
       ·
        intro w'
        go_simp
        with_reducible rfl
       rotate_left
       ·
        simp only [Act.put, List.setIfInBounds_toArray, List.set_cons_zero, List.set_cons_succ, i64_w, i32_w]
        rfl
       refine pure_ (i := 2) (N := some 41) (v := ?_) (a' := ?_) #[true, false, true, false, false, false, false, false, false, false] rfl rfl (any_of HT_.out (by kernel_rfl)) (fun _ _ _ h => h) (Or.inl ⟨by rfl, ?_⟩) ?_ ?_
       rotate_left
       ·
        intro w'
        go_simp
        with_reducible rfl
       rotate_left
       ·
        simp only [Act.put, List.setIfInBounds_toArray, List.set_cons_zero, List.set_cons_succ, i64_w, i32_w]
        rfl
       refine take_ (i := 1) (N := some 40) (v := ?_) (a' := ?_) #[true, true, true, false, false, false, false, false, false, false] rfl rfl (take_ofW HT_.out HW_.out (by kernel_rfl)) (fun _ _ _ h => h) (Or.inl ⟨by rfl, ?_⟩) hHeld ?_ ?_
       rotate_left
       ·
        rintro w' ⟨s0, s1, s2, s3⟩
        go_simp
        with_reducible rfl
       rotate_left
       ·
        simp only [Act.put, List.setIfInBounds_toArray, List.set_cons_zero, List.set_cons_succ, i64_w, i32_w]
        rfl
       refine take_ (i := 3) (N := some 42) (v := ?_) (a' := ?_) #[true, true, true, true, false, false, false, false, false, false] rfl rfl (take_ofW HT_.out HW_.out (by kernel_rfl)) (fun _ _ _ h => h) (Or.inl ⟨by rfl, ?_⟩) hHeld ?_ ?_
       rotate_left
       ·
        rintro w' ⟨s0, s1, s2, s3⟩
        go_simp
        with_reducible rfl
       rotate_left
       ·
        simp only [Act.put, List.setIfInBounds_toArray, List.set_cons_zero, List.set_cons_succ, i64_w, i32_w]
        rfl
       refine pure_ (i := 4) (N := some 43) (v := ?_) (a' := ?_) #[true, true, true, true, true, false, false, false, false, false] rfl rfl (any_of HT_.out (by kernel_rfl)) (fun _ _ _ h => h) (Or.inl ⟨by rfl, ?_⟩) ?_ ?_
       rotate_left
       ·
        intro w'
        go_simp
        with_reducible rfl
       rotate_left
       ·
        simp only [Act.put, List.setIfInBounds_toArray, List.set_cons_zero, List.set_cons_succ, i64_w, i32_w]
        rfl
       refine join_ (σ := Value × Value × Nat) 1 #[true, true, true, true, true, true, true, true, true, false] (fun s_ => [(44, s_.1), (45, s_.2.1), (7, .pointer (some ⟨s_.2.2, 0, none⟩)), (46, .agg #[s_.2.1, .slice none 0 0])]) (fun s_ w' => (w'.cell? ⟨gb241, 0, none⟩ = some (.slice A0_0 l0_0.length c0_0) ∧ w'.cell? ⟨gb241, 1, none⟩ = some (.slice A0_1 l0_1.length c0_1) ∧ w'.cell? ⟨gb242, 0, none⟩ = some (.slice A1_0 l1_0.length c1_0) ∧ w'.cell? ⟨gb242, 1, none⟩ = some (.slice A1_1 l1_1.length c1_1)) ∧ (Kd.N k28 28 w' w.heap.size (fun k_ => ((P0_0_ k_ ∨ P1_0_ k_) ∨ w.heap.size ≤ k_) ∧ some k_ ≠ (s_.1 : Value).ownBlock ∧ some k_ ≠ (s_.2.1 : Value).ownBlock ∧ k_ ≠ gb241 ∧ k_ ≠ gb242 ∧ k_ ≠ gb243 ∧ k_ ≠ s_.2.2) v247 t246) ∧ (Kd.V (Kd.int .i64) 3 w' w.heap.size (fun k_ => ((P0_0_ k_ ∨ P1_0_ k_) ∨ w.heap.size ≤ k_) ∧ some k_ ≠ (v247 : Value).ownBlock ∧ some k_ ≠ (s_.1 : Value).ownBlock ∧ some k_ ≠ (s_.2.1 : Value).ownBlock ∧ k_ ≠ gb241 ∧ k_ ≠ gb242 ∧ k_ ≠ gb243 ∧ k_ ≠ s_.2.2) (.slice A48 y249.length c48) y249) ∧ (Kd.N (Kd.slice 3 (Kd.int .i64)) 22 w' w.heap.size (fun k_ => ((P0_0_ k_ ∨ P1_0_ k_) ∨ w.heap.size ≤ k_) ∧ some k_ ≠ (v247 : Value).ownBlock ∧ some k_ ≠ (s_.2.1 : Value).ownBlock ∧ k_ ≠ gb241 ∧ k_ ≠ gb242 ∧ k_ ≠ gb243 ∧ k_ ≠ s_.2.2) s_.1 y254) ∧ (Kd.R (Kd.int .i64) 3 w' w.heap.size (fun k_ => (w.heap.size ≤ k_)) s_.2.1 t257) ∧ (Kd.V (Kd.int .i64) 3 w' w.heap.size (fun k_ => ((P0_0_ k_ ∨ P1_0_ k_) ∨ w.heap.size ≤ k_) ∧ some k_ ≠ (v247 : Value).ownBlock ∧ some k_ ≠ (s_.1 : Value).ownBlock ∧ some k_ ≠ (s_.2.1 : Value).ownBlock ∧ k_ ≠ gb241 ∧ k_ ≠ gb242 ∧ k_ ≠ gb243 ∧ k_ ≠ s_.2.2) (.slice A0_0 l0_0.length c0_0) l0_0) ∧ (Kd.V (Kd.int .i64) 3 w' w.heap.size (fun k_ => ((P0_0_ k_ ∨ P1_0_ k_) ∨ w.heap.size ≤ k_) ∧ some k_ ≠ (v247 : Value).ownBlock ∧ some k_ ≠ (s_.1 : Value).ownBlock ∧ some k_ ≠ (s_.2.1 : Value).ownBlock ∧ k_ ≠ gb241 ∧ k_ ≠ gb242 ∧ k_ ≠ gb243 ∧ k_ ≠ s_.2.2) (.slice A1_0 l1_0.length c1_0) l1_0) ∧ (w'.heap[gb241]? = some (.cells #[.slice A0_0 l0_0.length c0_0, .slice A0_1 l0_1.length c0_1] 28 (0, 0))) ∧ (w'.heap[gb242]? = some (.cells #[.slice A1_0 l1_0.length c1_0, .slice A1_1 l1_1.length c1_1] 28 (0, 0))) ∧ (w'.heap[gb243]? = some (.cells #[.slice none 0 0, .slice none 0 0] 28 (0, 0))) ∧ (w'.heap[s_.2.2]? = some (.cells #[.slice none 0 0, .slice none 0 0] 28 (0, 0))) ∧ (w.heap.size ≤ s_.2.2) ∧ (w.heap.size ≤ s_.2.2) ∧ (gb241 ≠ s_.2.2) ∧ (s_.2.2 ≠ gb241) ∧ (gb242 ≠ s_.2.2) ∧ (s_.2.2 ≠ gb242) ∧ (gb243 ≠ s_.2.2) ∧ (s_.2.2 ≠ gb243) ∧ (Below w.heap.size w w')) ?_ ?_
       rotate_left
       ·
        intro hCont
        refine two_ (i := 5) (j := 8) (Ni := some 44) (Nj := some 7) #[true, true, true, true, true, true, false, false, false, false] #[true, true, true, true, true, false, false, false, true, false] rfl rfl rfl rfl (two_of HT_.out (by kernel_rfl)) (by decide) (by decide) (fun K hK => ?_) (fun K hK => ?_)
        ·
         skip
         refine Kd.N_lit_step (Kd.slice 3 (Kd.int .i64)) _ 22 ?hg (N' := 44) ?hd (xs := ([l0_0, y249] : List (List Int))) (inner := [.slice A0_0 l0_0.length c0_0, .slice A48 y249.length c48]) (ok := (fun k_ => ((P0_0_ k_ ∨ P1_0_ k_) ∨ w.heap.size ≤ k_) ∧ some k_ ≠ (v247 : Value).ownBlock ∧ k_ ≠ gb241 ∧ k_ ≠ gb242 ∧ k_ ≠ gb243)) (okp := (fun k_ => ((P0_0_ k_ ∨ P1_0_ k_) ∨ w.heap.size ≤ k_) ∧ some k_ ≠ (v247 : Value).ownBlock ∧ k_ ≠ gb241 ∧ k_ ≠ gb242 ∧ k_ ≠ gb243)) ?hr ?hp (fun _ hk => hk) ((show ∀ k_, w47.heap.size ≤ k_ → (fun k_ => ((P0_0_ k_ ∨ P1_0_ k_) ∨ w.heap.size ≤ k_) ∧ some k_ ≠ (v247 : Value).ownBlock ∧ k_ ≠ gb241 ∧ k_ ≠ gb242 ∧ k_ ≠ gb243) k_ from fun k_ hk => ⟨(.inr (Nat.le_trans (below_size (bS3 HB.out GE241.out GE242.out GE243.out)) hk)), Kd.fresh' (Kd.N_lt (NU HO248.out)) k_ hk, Kd.freshB (g := gb241) (o := .cells #[.slice A0_0 l0_0.length c0_0, .slice A0_1 l0_1.length c0_1] 28 (0, 0)) (kU BK241.out) k_ hk, Kd.freshB (g := gb242) (o := .cells #[.slice A1_0 l1_0.length c1_0, .slice A1_1 l1_1.length c1_1] 28 (0, 0)) (kU BK242.out) k_ hk, Kd.freshB (g := gb243) (o := .cells #[.slice none 0 0, .slice none 0 0] 28 (0, 0)) (kU BK243.out) k_ hk⟩) _ (Nat.le_refl _)) (Below.refl _ _) (Nat.le_refl _) (by simp) ?_; (case hd => rfl); (case hg => rfl); (case hr => first | (go_simp; done) | (go_simp; rfl)); (case hp => exact (Reps.one (show Kd.FK (Kd.slice 3 (Kd.int .i64)) _ _ l0_0 [.slice A0_0 l0_0.length c0_0] from (Kd.FK_slice_mk (Kd.V_reads' (Kd.V_mono (ok' := (fun k_ => ((P0_0_ k_ ∨ P1_0_ k_) ∨ w.heap.size ≤ k_) ∧ some k_ ≠ (v247 : Value).ownBlock ∧ k_ ≠ gb241 ∧ k_ ≠ gb242 ∧ k_ ≠ gb243)) (HO_242000.out) (fun k_ hk => ⟨hk.1.1, ⟨hk.2, ⟨hk.1.2.1, ⟨hk.1.2.2.1, hk.1.2.2.2⟩⟩⟩⟩))).2.1 (Kd.V_F (Kd.V_mono (ok' := (fun k_ => ((P0_0_ k_ ∨ P1_0_ k_) ∨ w.heap.size ≤ k_) ∧ some k_ ≠ (v247 : Value).ownBlock ∧ k_ ≠ gb241 ∧ k_ ≠ gb242 ∧ k_ ≠ gb243)) (HO_242000.out) (fun k_ hk => ⟨hk.1.1, ⟨hk.2, ⟨hk.1.2.1, ⟨hk.1.2.2.1, hk.1.2.2.2⟩⟩⟩⟩))))) (Reps.one (show Kd.FK (Kd.slice 3 (Kd.int .i64)) _ _ y249 [.slice A48 y249.length c48] from (Kd.FK_slice_mk (Kd.V_reads' (Kd.V_mono (ok' := (fun k_ => ((P0_0_ k_ ∨ P1_0_ k_) ∨ w.heap.size ≤ k_) ∧ some k_ ≠ (v247 : Value).ownBlock ∧ k_ ≠ gb241 ∧ k_ ≠ gb242 ∧ k_ ≠ gb243)) (HO253.out) (fun k_ hk => ⟨hk.1.1, ⟨hk.2, ⟨hk.1.2.1, ⟨hk.1.2.2.1, hk.1.2.2.2⟩⟩⟩⟩))).2.1 (Kd.V_F (Kd.V_mono (ok' := (fun k_ => ((P0_0_ k_ ∨ P1_0_ k_) ∨ w.heap.size ≤ k_) ∧ some k_ ≠ (v247 : Value).ownBlock ∧ k_ ≠ gb241 ∧ k_ ≠ gb242 ∧ k_ ≠ gb243)) (HO253.out) (fun k_ hk => ⟨hk.1.1, ⟨hk.2, ⟨hk.1.2.1, ⟨hk.1.2.2.1, hk.1.2.2.2⟩⟩⟩⟩))))) (Reps.none _ _))))
         intro v255 w49 ho50 hb hg_ hnew_
         clear hg_ hnew_
         (first | rw [← Ny254.out] at ho50 | (simp only [Int.reduceToNat] at ho50; rw [← Ny254.out] at ho50))
         replace HO_242000 := Aside0.mk (Kd.V_elder' (VU HO_242000.out) (Kd.N_base ho50) hb)
         replace HO_243000 := Aside0.mk (Kd.V_elder' (VU HO_243000.out) (Kd.N_base ho50) hb)
         replace HO248 := Aside0.mk (Kd.N_elder' (NU HO248.out) (Kd.N_base ho50) hb)
         replace HO253 := Aside0.mk (Kd.V_elder' (VU HO253.out) (Kd.N_base ho50) hb)
         have HO256 := Aside0.mk (Kd.N_lower ho50 (below_size (bS3 HB.out GE241.out GE242.out GE243.out)))
         replace BK241 := Aside0.mk (kB BK241.out hb)
         replace BK242 := Aside0.mk (kB BK242.out hb)
         replace BK243 := Aside0.mk (kB BK243.out hb)
         replace HB := Aside0.mk (below_step (bS3 HB.out GE241.out GE242.out GE243.out) hb)
         clear hb ho50
         obtain ⟨Ao51, co51, eo51⟩ := Kd.N_slice HO256.out
         (first | subst eo51 | (injection eo51 with f1_ f2_ f3_; have f4_ := f1_.symm; have f5_ := f3_.symm; clear f1_ f2_ f3_; subst f4_; subst f5_))
         refine hK.out _ _ ⟨(blk_cell BK241.out 0).trans rfl, (blk_cell BK241.out 1).trans rfl, (blk_cell BK242.out 0).trans rfl, (blk_cell BK242.out 1).trans rfl⟩ (fun hHeld => ?_)
         clear hK K
         refine norm_ (a' := ?_) ?_ ?_
         rotate_left
         ·
          show Act.put _ (some 44) _ = _
          simp only [Act.put, List.setIfInBounds_toArray, List.set_cons_zero, List.set_cons_succ, i64_w, i32_w]
          rfl
         refine two_ (i := 6) (j := 8) (Ni := some 45) (Nj := some 7) #[true, true, true, true, true, true, true, false, false, false] #[true, true, true, true, true, true, false, false, true, false] rfl rfl rfl rfl (two_of HT_.out (by kernel_rfl)) (by decide) (by decide) (fun K hK => ?_) (fun K hK => ?_)
         ·
          skip
          refine goes_ Try.func29 (by kernel_rfl) rfl #[.slice Ao51 y254.length co51] (by rfl) rfl rfl lU ?_
          with_reducible refine (slices_Concat_int_int.calls kj2 _ _ y254 t257 _ ?side1 ?side2 A40.out).mono ?_
          (case side1 => exact cU (Kd.N_reads' HO256.out).2.2)
          (case side2 => exact (Kd.N_reads' HO256.out).2.1)
          rintro e w52 ⟨v258, rfl, ho0, hb⟩
          refine ⟨_, rfl, ?_⟩
          replace HO_242000 := Aside0.mk (Kd.V_elder' (VU HO_242000.out) (Kd.R_base ho0) hb)
          replace HO_243000 := Aside0.mk (Kd.V_elder' (VU HO_243000.out) (Kd.R_base ho0) hb)
          replace HO248 := Aside0.mk (Kd.N_elder' (NU HO248.out) (Kd.R_base ho0) hb)
          replace HO253 := Aside0.mk (Kd.V_elder' (VU HO253.out) (Kd.R_base ho0) hb)
          replace HO256 := Aside0.mk (Kd.N_elder' (NU HO256.out) (Kd.R_base ho0) hb)
          have HO259 := Aside0.mk (Kd.R_lower (Kd.R_newM (M := fun k_ => (w.heap.size ≤ k_)) ho0 (below_size (bS3 HB.out GE241.out GE242.out GE243.out)) (fun k_ h_ => h_)) (below_size (bS3 HB.out GE241.out GE242.out GE243.out)))
          replace BK241 := Aside0.mk (kB BK241.out hb)
          replace BK242 := Aside0.mk (kB BK242.out hb)
          replace BK243 := Aside0.mk (kB BK243.out hb)
          replace HB := Aside0.mk (below_step (bS3 HB.out GE241.out GE242.out GE243.out) hb)
          (try clear hb)
          (try clear hb2)
          (try clear hk)
          (try clear hi)
          (try clear ho0)
          obtain ⟨Ao53, co53, eo53⟩ := Kd.R_slice HO259.out
          (first | subst eo53 | (injection eo53 with f1_ f2_ f3_; have f4_ := f1_.symm; have f5_ := f3_.symm; clear f1_ f2_ f3_; subst f4_; subst f5_))
          refine hK.out _ _ ⟨(blk_cell BK241.out 0).trans rfl, (blk_cell BK241.out 1).trans rfl, (blk_cell BK242.out 0).trans rfl, (blk_cell BK242.out 1).trans rfl⟩ (fun hHeld => ?_)
          clear hK K
          refine norm_ (a' := ?_) ?_ ?_
          rotate_left
          ·
           show Act.put _ (some 45) _ = _
           simp only [Act.put, List.setIfInBounds_toArray, List.set_cons_zero, List.set_cons_succ, i64_w, i32_w]
           rfl
          refine pure_ (i := 7) (N := some 46) (v := ?_) (a' := ?_) #[true, true, true, true, true, true, true, true, false, false] rfl rfl (any_of HT_.out (by kernel_rfl)) (fun _ _ _ h => h) (Or.inl ⟨by rfl, ?_⟩) ?_ ?_
          rotate_left
          ·
           intro w'
           go_simp
           with_reducible rfl
          rotate_left
          ·
           simp only [Act.put, List.setIfInBounds_toArray, List.set_cons_zero, List.set_cons_succ, i64_w, i32_w]
           rfl
          refine one_ (i := 8) (N := some 7) #[true, true, true, true, true, true, true, true, true, false] rfl rfl (one_of HT_.out (by kernel_rfl)) (by decide) (fun K hK => ?_)
          refine box_step ?hg (N := 7) ?hd (cs := #[.slice none 0 0, .slice none 0 0]) (t := 28) ?hr ?_; (case hd => rfl); (case hg => rfl); (case hr => first | (go_simp; done) | (go_simp; rfl))
          intro gb260 hg w54 hbox hb
          replace HO_242000 := Aside0.mk (Kd.V_below (Kd.V_elderB (VU HO_242000.out) gb260 (Nat.le_of_eq hg.symm)) hb)
          replace HO_243000 := Aside0.mk (Kd.V_below (Kd.V_elderB (VU HO_243000.out) gb260 (Nat.le_of_eq hg.symm)) hb)
          replace HO248 := Aside0.mk (Kd.N_below (Kd.N_elderB (NU HO248.out) gb260 (Nat.le_of_eq hg.symm)) hb)
          replace HO253 := Aside0.mk (Kd.V_below (Kd.V_elderB (VU HO253.out) gb260 (Nat.le_of_eq hg.symm)) hb)
          replace HO256 := Aside0.mk (Kd.N_below (Kd.N_elderB (NU HO256.out) gb260 (Nat.le_of_eq hg.symm)) hb)
          replace HO259 := Aside0.mk (Kd.R_below (RU HO259.out) hb)
          have BK260 := Aside0.mk (hbox)
          have GW260 := Aside0.mk ((by rw [hg]; exact (below_size (bS3 HB.out GE241.out GE242.out GE243.out)) : w.heap.size ≤ gb260))
          have GE260 := Aside0.mk ((by rw [hg]; exact (below_size (bS3 HB.out GE241.out GE242.out GE243.out)) : w.heap.size ≤ gb260))
          replace HB := Aside0.mk (below_step (bS3 HB.out GE241.out GE242.out GE243.out) hb)
          have NB241_260 := Aside0.mk (kN BK241.out hg)
          have NB260_241 := Aside0.mk (kM BK241.out hg)
          replace BK241 := Aside0.mk (kB BK241.out hb)
          have NB242_260 := Aside0.mk (kN BK242.out hg)
          have NB260_242 := Aside0.mk (kM BK242.out hg)
          replace BK242 := Aside0.mk (kB BK242.out hb)
          have NB243_260 := Aside0.mk (kN BK243.out hg)
          have NB260_243 := Aside0.mk (kM BK243.out hg)
          replace BK243 := Aside0.mk (kB BK243.out hb)
          clear hb hbox hg
          refine hK.out _ _ ⟨(blk_cell BK241.out 0).trans rfl, (blk_cell BK241.out 1).trans rfl, (blk_cell BK242.out 0).trans rfl, (blk_cell BK242.out 1).trans rfl⟩ (fun hHeld => ?_)
          clear hK K
          refine norm_ (a' := ?_) ?_ ?_
          rotate_left
          ·
           show Act.put _ (some 7) _ = _
           simp only [Act.put, List.setIfInBounds_toArray, List.set_cons_zero, List.set_cons_succ, i64_w, i32_w]
           rfl
          exact norm_ (by simp only [putAll, Act.put, List.setIfInBounds_toArray, List.set_cons_zero, List.set_cons_succ]) (hCont (.slice Ao51 y254.length co51, .slice Ao53 t257.length co53, gb260) _ ⟨hHeld, (by refine NU ?_; exact Kd.N_mono HO248.out (fun _ hk => ⟨hk.1.1.1.1, ⟨hk.1.1.2, ⟨hk.1.2, ⟨hk.1.1.1.2.1, ⟨hk.1.1.1.2.2.1, ⟨hk.1.1.1.2.2.2, hk.2⟩⟩⟩⟩⟩⟩)), (by refine VU ?_; exact Kd.V_mono HO253.out (fun _ hk => ⟨hk.1.1.1.1.1, ⟨hk.1.1.1.2, ⟨hk.1.1.2, ⟨hk.1.2, ⟨hk.1.1.1.1.2.1, ⟨hk.1.1.1.1.2.2.1, ⟨hk.1.1.1.1.2.2.2, hk.2⟩⟩⟩⟩⟩⟩⟩)), (by refine NU ?_; exact Kd.N_mono HO256.out (fun _ hk => ⟨hk.1.1.1, ⟨hk.1.1.2.1, ⟨hk.1.2, ⟨hk.1.1.2.2.1, ⟨hk.1.1.2.2.2.1, ⟨hk.1.1.2.2.2.2, hk.2⟩⟩⟩⟩⟩⟩)), (by refine RU ?_; exact Kd.R_mono HO259.out (fun _ hk => hk.1)), (by refine VU ?_; exact Kd.V_mono HO_242000.out (fun _ hk => ⟨hk.1.1.1.1.1, ⟨hk.1.1.1.2, ⟨hk.1.1.2, ⟨hk.1.2, ⟨hk.1.1.1.1.2.1, ⟨hk.1.1.1.1.2.2.1, ⟨hk.1.1.1.1.2.2.2, hk.2⟩⟩⟩⟩⟩⟩⟩)), (by refine VU ?_; exact Kd.V_mono HO_243000.out (fun _ hk => ⟨hk.1.1.1.1.1, ⟨hk.1.1.1.2, ⟨hk.1.1.2, ⟨hk.1.2, ⟨hk.1.1.1.1.2.1, ⟨hk.1.1.1.1.2.2.1, ⟨hk.1.1.1.1.2.2.2, hk.2⟩⟩⟩⟩⟩⟩⟩)), (kU BK241.out), (kU BK242.out), (kU BK243.out), (kU BK260.out), GW260.out, GE260.out, NB241_260.out, NB260_241.out, NB242_260.out, NB260_242.out, NB243_260.out, NB260_243.out, (bS4 HB.out GE241.out GE242.out GE243.out GE260.out)⟩)
         ·
          skip
          refine box_step ?hg (N := 7) ?hd (cs := #[.slice none 0 0, .slice none 0 0]) (t := 28) ?hr ?_; (case hd => rfl); (case hg => rfl); (case hr => first | (go_simp; done) | (go_simp; rfl))
          intro gb260 hg w51 hbox hb
          replace HO_242000 := Aside0.mk (Kd.V_below (Kd.V_elderB (VU HO_242000.out) gb260 (Nat.le_of_eq hg.symm)) hb)
          replace HO_243000 := Aside0.mk (Kd.V_below (Kd.V_elderB (VU HO_243000.out) gb260 (Nat.le_of_eq hg.symm)) hb)
          replace HO248 := Aside0.mk (Kd.N_below (Kd.N_elderB (NU HO248.out) gb260 (Nat.le_of_eq hg.symm)) hb)
          replace HO253 := Aside0.mk (Kd.V_below (Kd.V_elderB (VU HO253.out) gb260 (Nat.le_of_eq hg.symm)) hb)
          replace HO256 := Aside0.mk (Kd.N_below (Kd.N_elderB (NU HO256.out) gb260 (Nat.le_of_eq hg.symm)) hb)
          have BK260 := Aside0.mk (hbox)
          have GW260 := Aside0.mk ((by rw [hg]; exact (below_size (bS3 HB.out GE241.out GE242.out GE243.out)) : w.heap.size ≤ gb260))
          have GE260 := Aside0.mk ((by rw [hg]; exact (below_size (bS3 HB.out GE241.out GE242.out GE243.out)) : w.heap.size ≤ gb260))
          replace HB := Aside0.mk (below_step (bS3 HB.out GE241.out GE242.out GE243.out) hb)
          have NB241_260 := Aside0.mk (kN BK241.out hg)
          have NB260_241 := Aside0.mk (kM BK241.out hg)
          replace BK241 := Aside0.mk (kB BK241.out hb)
          have NB242_260 := Aside0.mk (kN BK242.out hg)
          have NB260_242 := Aside0.mk (kM BK242.out hg)
          replace BK242 := Aside0.mk (kB BK242.out hb)
          have NB243_260 := Aside0.mk (kN BK243.out hg)
          have NB260_243 := Aside0.mk (kM BK243.out hg)
          replace BK243 := Aside0.mk (kB BK243.out hb)
          clear hb hbox hg
          obtain ⟨Ao52, co52, eo52⟩ := Kd.N_slice HO256.out
          (first | subst eo52 | (injection eo52 with f1_ f2_ f3_; have f4_ := f1_.symm; have f5_ := f3_.symm; clear f1_ f2_ f3_; subst f4_; subst f5_))
          refine hK.out _ _ ⟨(blk_cell BK241.out 0).trans rfl, (blk_cell BK241.out 1).trans rfl, (blk_cell BK242.out 0).trans rfl, (blk_cell BK242.out 1).trans rfl⟩ (fun hHeld => ?_)
          clear hK K
          refine norm_ (a' := ?_) ?_ ?_
          rotate_left
          ·
           show Act.put _ (some 7) _ = _
           simp only [Act.put, List.setIfInBounds_toArray, List.set_cons_zero, List.set_cons_succ, i64_w, i32_w]
           rfl
          refine one_ (i := 6) (N := some 45) #[true, true, true, true, true, true, true, false, true, false] rfl rfl (one_of HT_.out (by kernel_rfl)) (by decide) (fun K hK => ?_)
          refine goes_ Try.func29 (by kernel_rfl) rfl #[.slice Ao52 y254.length co52] (by rfl) rfl rfl lU ?_
          with_reducible refine (slices_Concat_int_int.calls kj2 _ _ y254 t257 _ ?side1 ?side2 A40.out).mono ?_
          (case side1 => exact cU (Kd.N_reads' HO256.out).2.2)
          (case side2 => exact (Kd.N_reads' HO256.out).2.1)
          rintro e w53 ⟨v258, rfl, ho0, hb⟩
          refine ⟨_, rfl, ?_⟩
          replace HO_242000 := Aside0.mk (Kd.V_elder' (VU HO_242000.out) (Kd.R_base ho0) hb)
          replace HO_243000 := Aside0.mk (Kd.V_elder' (VU HO_243000.out) (Kd.R_base ho0) hb)
          replace HO248 := Aside0.mk (Kd.N_elder' (NU HO248.out) (Kd.R_base ho0) hb)
          replace HO253 := Aside0.mk (Kd.V_elder' (VU HO253.out) (Kd.R_base ho0) hb)
          replace HO256 := Aside0.mk (Kd.N_elder' (NU HO256.out) (Kd.R_base ho0) hb)
          have HO259 := Aside0.mk (Kd.R_lower (Kd.R_newM (M := fun k_ => (w.heap.size ≤ k_)) ho0 (below_size (bS4 HB.out GE241.out GE242.out GE243.out GE260.out)) (fun k_ h_ => h_)) (below_size (bS4 HB.out GE241.out GE242.out GE243.out GE260.out)))
          replace BK241 := Aside0.mk (kB BK241.out hb)
          replace BK242 := Aside0.mk (kB BK242.out hb)
          replace BK243 := Aside0.mk (kB BK243.out hb)
          replace BK260 := Aside0.mk (kB BK260.out hb)
          replace HB := Aside0.mk (below_step (bS4 HB.out GE241.out GE242.out GE243.out GE260.out) hb)
          (try clear hb)
          (try clear hb2)
          (try clear hk)
          (try clear hi)
          (try clear ho0)
          obtain ⟨Ao54, co54, eo54⟩ := Kd.R_slice HO259.out
          (first | subst eo54 | (injection eo54 with f1_ f2_ f3_; have f4_ := f1_.symm; have f5_ := f3_.symm; clear f1_ f2_ f3_; subst f4_; subst f5_))
          refine hK.out _ _ ⟨(blk_cell BK241.out 0).trans rfl, (blk_cell BK241.out 1).trans rfl, (blk_cell BK242.out 0).trans rfl, (blk_cell BK242.out 1).trans rfl⟩ (fun hHeld => ?_)
          clear hK K
          refine norm_ (a' := ?_) ?_ ?_
          rotate_left
          ·
           show Act.put _ (some 45) _ = _
           simp only [Act.put, List.setIfInBounds_toArray, List.set_cons_zero, List.set_cons_succ, i64_w, i32_w]
           rfl
          refine pure_ (i := 7) (N := some 46) (v := ?_) (a' := ?_) #[true, true, true, true, true, true, true, true, true, false] rfl rfl (any_of HT_.out (by kernel_rfl)) (fun _ _ _ h => h) (Or.inl ⟨by rfl, ?_⟩) ?_ ?_
          rotate_left
          ·
           intro w'
           go_simp
           with_reducible rfl
          rotate_left
          ·
           simp only [Act.put, List.setIfInBounds_toArray, List.set_cons_zero, List.set_cons_succ, i64_w, i32_w]
           rfl
          exact norm_ (by simp only [putAll, Act.put, List.setIfInBounds_toArray, List.set_cons_zero, List.set_cons_succ]) (hCont (.slice Ao52 y254.length co52, .slice Ao54 t257.length co54, gb260) _ ⟨hHeld, (by refine NU ?_; exact Kd.N_mono HO248.out (fun _ hk => ⟨hk.1.1.1.1, ⟨hk.1.1.2, ⟨hk.2, ⟨hk.1.1.1.2.1, ⟨hk.1.1.1.2.2.1, ⟨hk.1.1.1.2.2.2, hk.1.2⟩⟩⟩⟩⟩⟩)), (by refine VU ?_; exact Kd.V_mono HO253.out (fun _ hk => ⟨hk.1.1.1.1.1, ⟨hk.1.1.1.2, ⟨hk.1.1.2, ⟨hk.2, ⟨hk.1.1.1.1.2.1, ⟨hk.1.1.1.1.2.2.1, ⟨hk.1.1.1.1.2.2.2, hk.1.2⟩⟩⟩⟩⟩⟩⟩)), (by refine NU ?_; exact Kd.N_mono HO256.out (fun _ hk => ⟨hk.1.1.1, ⟨hk.1.1.2.1, ⟨hk.2, ⟨hk.1.1.2.2.1, ⟨hk.1.1.2.2.2.1, ⟨hk.1.1.2.2.2.2, hk.1.2⟩⟩⟩⟩⟩⟩)), (by refine RU ?_; exact Kd.R_mono HO259.out (fun _ hk => hk.1)), (by refine VU ?_; exact Kd.V_mono HO_242000.out (fun _ hk => ⟨hk.1.1.1.1.1, ⟨hk.1.1.1.2, ⟨hk.1.1.2, ⟨hk.2, ⟨hk.1.1.1.1.2.1, ⟨hk.1.1.1.1.2.2.1, ⟨hk.1.1.1.1.2.2.2, hk.1.2⟩⟩⟩⟩⟩⟩⟩)), (by refine VU ?_; exact Kd.V_mono HO_243000.out (fun _ hk => ⟨hk.1.1.1.1.1, ⟨hk.1.1.1.2, ⟨hk.1.1.2, ⟨hk.2, ⟨hk.1.1.1.1.2.1, ⟨hk.1.1.1.1.2.2.1, ⟨hk.1.1.1.1.2.2.2, hk.1.2⟩⟩⟩⟩⟩⟩⟩)), (kU BK241.out), (kU BK242.out), (kU BK243.out), (kU BK260.out), GW260.out, GE260.out, NB241_260.out, NB260_241.out, NB242_260.out, NB260_242.out, NB243_260.out, NB260_243.out, (bS4 HB.out GE241.out GE242.out GE243.out GE260.out)⟩)
        ·
         skip
         refine box_step ?hg (N := 7) ?hd (cs := #[.slice none 0 0, .slice none 0 0]) (t := 28) ?hr ?_; (case hd => rfl); (case hg => rfl); (case hr => first | (go_simp; done) | (go_simp; rfl))
         intro gb260 hg w49 hbox hb
         replace HO_242000 := Aside0.mk (Kd.V_below (Kd.V_elderB (VU HO_242000.out) gb260 (Nat.le_of_eq hg.symm)) hb)
         replace HO_243000 := Aside0.mk (Kd.V_below (Kd.V_elderB (VU HO_243000.out) gb260 (Nat.le_of_eq hg.symm)) hb)
         replace HO248 := Aside0.mk (Kd.N_below (Kd.N_elderB (NU HO248.out) gb260 (Nat.le_of_eq hg.symm)) hb)
         replace HO253 := Aside0.mk (Kd.V_below (Kd.V_elderB (VU HO253.out) gb260 (Nat.le_of_eq hg.symm)) hb)
         have BK260 := Aside0.mk (hbox)
         have GW260 := Aside0.mk ((by rw [hg]; exact (below_size (bS3 HB.out GE241.out GE242.out GE243.out)) : w.heap.size ≤ gb260))
         have GE260 := Aside0.mk ((by rw [hg]; exact (below_size (bS3 HB.out GE241.out GE242.out GE243.out)) : w.heap.size ≤ gb260))
         replace HB := Aside0.mk (below_step (bS3 HB.out GE241.out GE242.out GE243.out) hb)
         have NB241_260 := Aside0.mk (kN BK241.out hg)
         have NB260_241 := Aside0.mk (kM BK241.out hg)
         replace BK241 := Aside0.mk (kB BK241.out hb)
         have NB242_260 := Aside0.mk (kN BK242.out hg)
         have NB260_242 := Aside0.mk (kM BK242.out hg)
         replace BK242 := Aside0.mk (kB BK242.out hb)
         have NB243_260 := Aside0.mk (kN BK243.out hg)
         have NB260_243 := Aside0.mk (kM BK243.out hg)
         replace BK243 := Aside0.mk (kB BK243.out hb)
         clear hb hbox hg
         refine hK.out _ _ ⟨(blk_cell BK241.out 0).trans rfl, (blk_cell BK241.out 1).trans rfl, (blk_cell BK242.out 0).trans rfl, (blk_cell BK242.out 1).trans rfl⟩ (fun hHeld => ?_)
         clear hK K
         refine norm_ (a' := ?_) ?_ ?_
         rotate_left
         ·
          show Act.put _ (some 7) _ = _
          simp only [Act.put, List.setIfInBounds_toArray, List.set_cons_zero, List.set_cons_succ, i64_w, i32_w]
          rfl
         refine one_ (i := 5) (N := some 44) #[true, true, true, true, true, true, false, false, true, false] rfl rfl (one_of HT_.out (by kernel_rfl)) (by decide) (fun K hK => ?_)
         refine Kd.N_lit_step (Kd.slice 3 (Kd.int .i64)) _ 22 ?hg (N' := 44) ?hd (xs := ([l0_0, y249] : List (List Int))) (inner := [.slice A0_0 l0_0.length c0_0, .slice A48 y249.length c48]) (ok := (fun k_ => ((P0_0_ k_ ∨ P1_0_ k_) ∨ w.heap.size ≤ k_) ∧ some k_ ≠ (v247 : Value).ownBlock ∧ k_ ≠ gb241 ∧ k_ ≠ gb242 ∧ k_ ≠ gb243 ∧ k_ ≠ gb260)) (okp := (fun k_ => ((P0_0_ k_ ∨ P1_0_ k_) ∨ w.heap.size ≤ k_) ∧ some k_ ≠ (v247 : Value).ownBlock ∧ k_ ≠ gb241 ∧ k_ ≠ gb242 ∧ k_ ≠ gb243 ∧ k_ ≠ gb260)) ?hr ?hp (fun _ hk => hk) ((show ∀ k_, w49.heap.size ≤ k_ → (fun k_ => ((P0_0_ k_ ∨ P1_0_ k_) ∨ w.heap.size ≤ k_) ∧ some k_ ≠ (v247 : Value).ownBlock ∧ k_ ≠ gb241 ∧ k_ ≠ gb242 ∧ k_ ≠ gb243 ∧ k_ ≠ gb260) k_ from fun k_ hk => ⟨(.inr (Nat.le_trans (below_size (bS4 HB.out GE241.out GE242.out GE243.out GE260.out)) hk)), Kd.fresh' (Kd.N_lt (NU HO248.out)) k_ hk, Kd.freshB (g := gb241) (o := .cells #[.slice A0_0 l0_0.length c0_0, .slice A0_1 l0_1.length c0_1] 28 (0, 0)) (kU BK241.out) k_ hk, Kd.freshB (g := gb242) (o := .cells #[.slice A1_0 l1_0.length c1_0, .slice A1_1 l1_1.length c1_1] 28 (0, 0)) (kU BK242.out) k_ hk, Kd.freshB (g := gb243) (o := .cells #[.slice none 0 0, .slice none 0 0] 28 (0, 0)) (kU BK243.out) k_ hk, Kd.freshB (g := gb260) (o := .cells #[.slice none 0 0, .slice none 0 0] 28 (0, 0)) (kU BK260.out) k_ hk⟩) _ (Nat.le_refl _)) (Below.refl _ _) (Nat.le_refl _) (by simp) ?_; (case hd => rfl); (case hg => rfl); (case hr => first | (go_simp; done) | (go_simp; rfl)); (case hp => exact (Reps.one (show Kd.FK (Kd.slice 3 (Kd.int .i64)) _ _ l0_0 [.slice A0_0 l0_0.length c0_0] from (Kd.FK_slice_mk (Kd.V_reads' (Kd.V_mono (ok' := (fun k_ => ((P0_0_ k_ ∨ P1_0_ k_) ∨ w.heap.size ≤ k_) ∧ some k_ ≠ (v247 : Value).ownBlock ∧ k_ ≠ gb241 ∧ k_ ≠ gb242 ∧ k_ ≠ gb243 ∧ k_ ≠ gb260)) (HO_242000.out) (fun k_ hk => ⟨hk.1.1.1, ⟨hk.1.2, ⟨hk.1.1.2.1, ⟨hk.1.1.2.2.1, ⟨hk.1.1.2.2.2, hk.2⟩⟩⟩⟩⟩))).2.1 (Kd.V_F (Kd.V_mono (ok' := (fun k_ => ((P0_0_ k_ ∨ P1_0_ k_) ∨ w.heap.size ≤ k_) ∧ some k_ ≠ (v247 : Value).ownBlock ∧ k_ ≠ gb241 ∧ k_ ≠ gb242 ∧ k_ ≠ gb243 ∧ k_ ≠ gb260)) (HO_242000.out) (fun k_ hk => ⟨hk.1.1.1, ⟨hk.1.2, ⟨hk.1.1.2.1, ⟨hk.1.1.2.2.1, ⟨hk.1.1.2.2.2, hk.2⟩⟩⟩⟩⟩))))) (Reps.one (show Kd.FK (Kd.slice 3 (Kd.int .i64)) _ _ y249 [.slice A48 y249.length c48] from (Kd.FK_slice_mk (Kd.V_reads' (Kd.V_mono (ok' := (fun k_ => ((P0_0_ k_ ∨ P1_0_ k_) ∨ w.heap.size ≤ k_) ∧ some k_ ≠ (v247 : Value).ownBlock ∧ k_ ≠ gb241 ∧ k_ ≠ gb242 ∧ k_ ≠ gb243 ∧ k_ ≠ gb260)) (HO253.out) (fun k_ hk => ⟨hk.1.1.1, ⟨hk.1.2, ⟨hk.1.1.2.1, ⟨hk.1.1.2.2.1, ⟨hk.1.1.2.2.2, hk.2⟩⟩⟩⟩⟩))).2.1 (Kd.V_F (Kd.V_mono (ok' := (fun k_ => ((P0_0_ k_ ∨ P1_0_ k_) ∨ w.heap.size ≤ k_) ∧ some k_ ≠ (v247 : Value).ownBlock ∧ k_ ≠ gb241 ∧ k_ ≠ gb242 ∧ k_ ≠ gb243 ∧ k_ ≠ gb260)) (HO253.out) (fun k_ hk => ⟨hk.1.1.1, ⟨hk.1.2, ⟨hk.1.1.2.1, ⟨hk.1.1.2.2.1, ⟨hk.1.1.2.2.2, hk.2⟩⟩⟩⟩⟩))))) (Reps.none _ _))))
         intro v255 w50 ho51 hb hg_ hnew_
         clear hg_ hnew_
         (first | rw [← Ny254.out] at ho51 | (simp only [Int.reduceToNat] at ho51; rw [← Ny254.out] at ho51))
         replace HO_242000 := Aside0.mk (Kd.V_elder' (VU HO_242000.out) (Kd.N_base ho51) hb)
         replace HO_243000 := Aside0.mk (Kd.V_elder' (VU HO_243000.out) (Kd.N_base ho51) hb)
         replace HO248 := Aside0.mk (Kd.N_elder' (NU HO248.out) (Kd.N_base ho51) hb)
         replace HO253 := Aside0.mk (Kd.V_elder' (VU HO253.out) (Kd.N_base ho51) hb)
         have HO256 := Aside0.mk (Kd.N_lower ho51 (below_size (bS4 HB.out GE241.out GE242.out GE243.out GE260.out)))
         replace BK241 := Aside0.mk (kB BK241.out hb)
         replace BK242 := Aside0.mk (kB BK242.out hb)
         replace BK243 := Aside0.mk (kB BK243.out hb)
         replace BK260 := Aside0.mk (kB BK260.out hb)
         replace HB := Aside0.mk (below_step (bS4 HB.out GE241.out GE242.out GE243.out GE260.out) hb)
         clear hb ho51
         obtain ⟨Ao52, co52, eo52⟩ := Kd.N_slice HO256.out
         (first | subst eo52 | (injection eo52 with f1_ f2_ f3_; have f4_ := f1_.symm; have f5_ := f3_.symm; clear f1_ f2_ f3_; subst f4_; subst f5_))
         refine hK.out _ _ ⟨(blk_cell BK241.out 0).trans rfl, (blk_cell BK241.out 1).trans rfl, (blk_cell BK242.out 0).trans rfl, (blk_cell BK242.out 1).trans rfl⟩ (fun hHeld => ?_)
         clear hK K
         refine norm_ (a' := ?_) ?_ ?_
         rotate_left
         ·
          show Act.put _ (some 44) _ = _
          simp only [Act.put, List.setIfInBounds_toArray, List.set_cons_zero, List.set_cons_succ, i64_w, i32_w]
          rfl
         refine one_ (i := 6) (N := some 45) #[true, true, true, true, true, true, true, false, true, false] rfl rfl (one_of HT_.out (by kernel_rfl)) (by decide) (fun K hK => ?_)
         refine goes_ Try.func29 (by kernel_rfl) rfl #[.slice Ao52 y254.length co52] (by rfl) rfl rfl lU ?_
         with_reducible refine (slices_Concat_int_int.calls kj2 _ _ y254 t257 _ ?side1 ?side2 A40.out).mono ?_
         (case side1 => exact cU (Kd.N_reads' HO256.out).2.2)
         (case side2 => exact (Kd.N_reads' HO256.out).2.1)
         rintro e w53 ⟨v258, rfl, ho0, hb⟩
         refine ⟨_, rfl, ?_⟩
         replace HO_242000 := Aside0.mk (Kd.V_elder' (VU HO_242000.out) (Kd.R_base ho0) hb)
         replace HO_243000 := Aside0.mk (Kd.V_elder' (VU HO_243000.out) (Kd.R_base ho0) hb)
         replace HO248 := Aside0.mk (Kd.N_elder' (NU HO248.out) (Kd.R_base ho0) hb)
         replace HO253 := Aside0.mk (Kd.V_elder' (VU HO253.out) (Kd.R_base ho0) hb)
         replace HO256 := Aside0.mk (Kd.N_elder' (NU HO256.out) (Kd.R_base ho0) hb)
         have HO259 := Aside0.mk (Kd.R_lower (Kd.R_newM (M := fun k_ => (w.heap.size ≤ k_)) ho0 (below_size (bS4 HB.out GE241.out GE242.out GE243.out GE260.out)) (fun k_ h_ => h_)) (below_size (bS4 HB.out GE241.out GE242.out GE243.out GE260.out)))
         replace BK241 := Aside0.mk (kB BK241.out hb)
         replace BK242 := Aside0.mk (kB BK242.out hb)
         replace BK243 := Aside0.mk (kB BK243.out hb)
         replace BK260 := Aside0.mk (kB BK260.out hb)
         replace HB := Aside0.mk (below_step (bS4 HB.out GE241.out GE242.out GE243.out GE260.out) hb)
         (try clear hb)
         (try clear hb2)
         (try clear hk)
         (try clear hi)
         (try clear ho0)
         obtain ⟨Ao54, co54, eo54⟩ := Kd.R_slice HO259.out
         (first | subst eo54 | (injection eo54 with f1_ f2_ f3_; have f4_ := f1_.symm; have f5_ := f3_.symm; clear f1_ f2_ f3_; subst f4_; subst f5_))
         refine hK.out _ _ ⟨(blk_cell BK241.out 0).trans rfl, (blk_cell BK241.out 1).trans rfl, (blk_cell BK242.out 0).trans rfl, (blk_cell BK242.out 1).trans rfl⟩ (fun hHeld => ?_)
         clear hK K
         refine norm_ (a' := ?_) ?_ ?_
         rotate_left
         ·
          show Act.put _ (some 45) _ = _
          simp only [Act.put, List.setIfInBounds_toArray, List.set_cons_zero, List.set_cons_succ, i64_w, i32_w]
          rfl
         refine pure_ (i := 7) (N := some 46) (v := ?_) (a' := ?_) #[true, true, true, true, true, true, true, true, true, false] rfl rfl (any_of HT_.out (by kernel_rfl)) (fun _ _ _ h => h) (Or.inl ⟨by rfl, ?_⟩) ?_ ?_
         rotate_left
         ·
          intro w'
          go_simp
          with_reducible rfl
         rotate_left
         ·
          simp only [Act.put, List.setIfInBounds_toArray, List.set_cons_zero, List.set_cons_succ, i64_w, i32_w]
          rfl
         exact norm_ (by simp only [putAll, Act.put, List.setIfInBounds_toArray, List.set_cons_zero, List.set_cons_succ]) (hCont (.slice Ao52 y254.length co52, .slice Ao54 t257.length co54, gb260) _ ⟨hHeld, (by refine NU ?_; exact Kd.N_mono HO248.out (fun _ hk => ⟨hk.1.1.1.1, ⟨hk.1.2, ⟨hk.2, ⟨hk.1.1.1.2.1, ⟨hk.1.1.1.2.2.1, ⟨hk.1.1.1.2.2.2, hk.1.1.2⟩⟩⟩⟩⟩⟩)), (by refine VU ?_; exact Kd.V_mono HO253.out (fun _ hk => ⟨hk.1.1.1.1.1, ⟨hk.1.1.1.2, ⟨hk.1.2, ⟨hk.2, ⟨hk.1.1.1.1.2.1, ⟨hk.1.1.1.1.2.2.1, ⟨hk.1.1.1.1.2.2.2, hk.1.1.2⟩⟩⟩⟩⟩⟩⟩)), (by refine NU ?_; exact Kd.N_mono HO256.out (fun _ hk => ⟨hk.1.1, ⟨hk.1.2.1, ⟨hk.2, ⟨hk.1.2.2.1, ⟨hk.1.2.2.2.1, ⟨hk.1.2.2.2.2.1, hk.1.2.2.2.2.2⟩⟩⟩⟩⟩⟩)), (by refine RU ?_; exact Kd.R_mono HO259.out (fun _ hk => hk.1)), (by refine VU ?_; exact Kd.V_mono HO_242000.out (fun _ hk => ⟨hk.1.1.1.1.1, ⟨hk.1.1.1.2, ⟨hk.1.2, ⟨hk.2, ⟨hk.1.1.1.1.2.1, ⟨hk.1.1.1.1.2.2.1, ⟨hk.1.1.1.1.2.2.2, hk.1.1.2⟩⟩⟩⟩⟩⟩⟩)), (by refine VU ?_; exact Kd.V_mono HO_243000.out (fun _ hk => ⟨hk.1.1.1.1.1, ⟨hk.1.1.1.2, ⟨hk.1.2, ⟨hk.2, ⟨hk.1.1.1.1.2.1, ⟨hk.1.1.1.1.2.2.1, ⟨hk.1.1.1.1.2.2.2, hk.1.1.2⟩⟩⟩⟩⟩⟩⟩)), (kU BK241.out), (kU BK242.out), (kU BK243.out), (kU BK260.out), GW260.out, GE260.out, NB241_260.out, NB260_241.out, NB242_260.out, NB260_242.out, NB243_260.out, NB260_243.out, (bS4 HB.out GE241.out GE242.out GE243.out GE260.out)⟩)
       rintro ⟨v255, v258, gb260⟩ w55 ⟨hS_, h0_, h1_, h2_, h3_, h4_, h5_, h6_, h7_, h8_, h9_, h10_, h11_, h12_, h13_, h14_, h15_, h16_, h17_, h18_⟩
       have n0_ : Aside0 (Kd.N k28 28 w55 w.heap.size (fun k_ => ((P0_0_ k_ ∨ P1_0_ k_) ∨ w.heap.size ≤ k_) ∧ some k_ ≠ (v255 : Value).ownBlock ∧ some k_ ≠ (v258 : Value).ownBlock ∧ k_ ≠ gb241 ∧ k_ ≠ gb242 ∧ k_ ≠ gb243 ∧ k_ ≠ gb260) v247 t246) := ⟨h0_⟩
       have n1_ : Aside0 (Kd.V (Kd.int .i64) 3 w55 w.heap.size (fun k_ => ((P0_0_ k_ ∨ P1_0_ k_) ∨ w.heap.size ≤ k_) ∧ some k_ ≠ (v247 : Value).ownBlock ∧ some k_ ≠ (v255 : Value).ownBlock ∧ some k_ ≠ (v258 : Value).ownBlock ∧ k_ ≠ gb241 ∧ k_ ≠ gb242 ∧ k_ ≠ gb243 ∧ k_ ≠ gb260) (.slice A48 y249.length c48) y249) := ⟨h1_⟩
       have n2_ : Aside0 (Kd.N (Kd.slice 3 (Kd.int .i64)) 22 w55 w.heap.size (fun k_ => ((P0_0_ k_ ∨ P1_0_ k_) ∨ w.heap.size ≤ k_) ∧ some k_ ≠ (v247 : Value).ownBlock ∧ some k_ ≠ (v258 : Value).ownBlock ∧ k_ ≠ gb241 ∧ k_ ≠ gb242 ∧ k_ ≠ gb243 ∧ k_ ≠ gb260) v255 y254) := ⟨h2_⟩
       have n3_ : Aside0 (Kd.R (Kd.int .i64) 3 w55 w.heap.size (fun k_ => (w.heap.size ≤ k_)) v258 t257) := ⟨h3_⟩
       have n4_ : Aside0 (Kd.V (Kd.int .i64) 3 w55 w.heap.size (fun k_ => ((P0_0_ k_ ∨ P1_0_ k_) ∨ w.heap.size ≤ k_) ∧ some k_ ≠ (v247 : Value).ownBlock ∧ some k_ ≠ (v255 : Value).ownBlock ∧ some k_ ≠ (v258 : Value).ownBlock ∧ k_ ≠ gb241 ∧ k_ ≠ gb242 ∧ k_ ≠ gb243 ∧ k_ ≠ gb260) (.slice A0_0 l0_0.length c0_0) l0_0) := ⟨h4_⟩
       have n5_ : Aside0 (Kd.V (Kd.int .i64) 3 w55 w.heap.size (fun k_ => ((P0_0_ k_ ∨ P1_0_ k_) ∨ w.heap.size ≤ k_) ∧ some k_ ≠ (v247 : Value).ownBlock ∧ some k_ ≠ (v255 : Value).ownBlock ∧ some k_ ≠ (v258 : Value).ownBlock ∧ k_ ≠ gb241 ∧ k_ ≠ gb242 ∧ k_ ≠ gb243 ∧ k_ ≠ gb260) (.slice A1_0 l1_0.length c1_0) l1_0) := ⟨h5_⟩
       have n6_ : Aside0 (w55.heap[gb241]? = some (.cells #[.slice A0_0 l0_0.length c0_0, .slice A0_1 l0_1.length c0_1] 28 (0, 0))) := ⟨h6_⟩
       have n7_ : Aside0 (w55.heap[gb242]? = some (.cells #[.slice A1_0 l1_0.length c1_0, .slice A1_1 l1_1.length c1_1] 28 (0, 0))) := ⟨h7_⟩
       have n8_ : Aside0 (w55.heap[gb243]? = some (.cells #[.slice none 0 0, .slice none 0 0] 28 (0, 0))) := ⟨h8_⟩
       have n9_ : Aside0 (w55.heap[gb260]? = some (.cells #[.slice none 0 0, .slice none 0 0] 28 (0, 0))) := ⟨h9_⟩
       have n10_ : Aside0 (w.heap.size ≤ gb260) := ⟨h10_⟩
       have n11_ : Aside0 (w.heap.size ≤ gb260) := ⟨h11_⟩
       have n12_ : Aside0 (gb241 ≠ gb260) := ⟨h12_⟩
       have n13_ : Aside0 (gb260 ≠ gb241) := ⟨h13_⟩
       have n14_ : Aside0 (gb242 ≠ gb260) := ⟨h14_⟩
       have n15_ : Aside0 (gb260 ≠ gb242) := ⟨h15_⟩
       have n16_ : Aside0 (gb243 ≠ gb260) := ⟨h16_⟩
       have n17_ : Aside0 (gb260 ≠ gb243) := ⟨h17_⟩
       have n18_ : Aside0 (Below w.heap.size w w55) := ⟨h18_⟩
       clear HO_242000 HO_243000 HO248 BK241 BK242 BK243 HB
       clear h0_ h1_ h2_ h3_ h4_ h5_ h6_ h7_ h8_ h9_ h10_ h11_ h12_ h13_ h14_ h15_ h16_ h17_ h18_
       have HO248 := n0_
       have HO253 := n1_
       have HO256 := n2_
       have HO259 := n3_
       have HO_242000 := n4_
       have HO_243000 := n5_
       have BK241 := n6_
       have BK242 := n7_
       have BK243 := n8_
       have BK260 := n9_
       have GW260 := n10_
       have GE260 := n11_
       have NB241_260 := n12_
       have NB260_241 := n13_
       have NB242_260 := n14_
       have NB260_242 := n15_
       have NB243_260 := n16_
       have NB260_243 := n17_
       have HB := n18_
       clear n0_ n1_ n2_ n3_ n4_ n5_ n6_ n7_ n8_ n9_ n10_ n11_ n12_ n13_ n14_ n15_ n16_ n17_ n18_
       have hHeld : w55.cell? ⟨gb241, 0, none⟩ = some (.slice A0_0 l0_0.length c0_0) ∧ w55.cell? ⟨gb241, 1, none⟩ = some (.slice A0_1 l0_1.length c0_1) ∧ w55.cell? ⟨gb242, 0, none⟩ = some (.slice A1_0 l1_0.length c1_0) ∧ w55.cell? ⟨gb242, 1, none⟩ = some (.slice A1_1 l1_1.length c1_1) := hS_
       obtain ⟨Ao56, co56, eo56⟩ := Kd.R_slice HO259.out
       (first | subst eo56 | (injection eo56 with f1_ f2_ f3_; have f4_ := f1_.symm; have f5_ := f3_.symm; clear f1_ f2_ f3_; subst f4_; subst f5_))
       refine norm_ (a' := ?_) ?_ ?_
       rotate_left
       ·
        simp only [putAll, Act.put, List.setIfInBounds_toArray, List.set_cons_zero, List.set_cons_succ]
        rfl
       refine one_ (i := 9) (N := none) #[true, true, true, true, true, true, true, true, true, true] rfl rfl (one_of HT_.out (by kernel_rfl)) (by decide) (fun K hK => ?_)
       have hs57 : w55.cell? ⟨gb260, 0, none⟩ = some (.slice none 0 0) := (blk_cell BK260.out 0).trans rfl
       have hfs57 := blk_frozen BK260.out 0
       have hns57_0 := NB241_260.out
       have hns57_1 := NB242_260.out
       have hns57_2 := NB243_260.out
       have hms57_0 := NB260_241.out
       have hms57_1 := NB260_242.out
       have hms57_2 := NB260_243.out
       have hs58 : w55.cell? ⟨gb260, 1, none⟩ = some (.slice none 0 0) := (blk_cell BK260.out 1).trans rfl
       have hfs58 := blk_frozen BK260.out 1
       have hns58_0 := NB241_260.out
       have hns58_1 := NB242_260.out
       have hns58_2 := NB243_260.out
       have hms58_0 := NB260_241.out
       have hms58_1 := NB260_242.out
       have hms58_2 := NB260_243.out
       refine skip_ (w1 := ?_) (by rfl) rfl ?_ ?_
       rotate_left
       ·
        go_simp
        rfl
       refine hK.out _ _ ⟨((cell_far (p := ⟨gb260, _, none⟩) NB241_260.out _).trans (((cell_far (p := ⟨gb260, _, none⟩) NB241_260.out _).trans (hHeld.1)))), ((cell_far (p := ⟨gb260, _, none⟩) NB241_260.out _).trans (((cell_far (p := ⟨gb260, _, none⟩) NB241_260.out _).trans (hHeld.2.1)))), ((cell_far (p := ⟨gb260, _, none⟩) NB242_260.out _).trans (((cell_far (p := ⟨gb260, _, none⟩) NB242_260.out _).trans (hHeld.2.2.1)))), ((cell_far (p := ⟨gb260, _, none⟩) NB242_260.out _).trans (((cell_far (p := ⟨gb260, _, none⟩) NB242_260.out _).trans (hHeld.2.2.2))))⟩ (fun hHeld => ?_)
       clear hK K
       refine done_ (done_of HT_.out (by kernel_rfl)) ?_
       have hnb59 := NB241_260.out
       have hnc59 := NB260_241.out
       have hcz60_0 : w55.cell? ⟨gb241, 0, none⟩ = some (.slice A0_0 l0_0.length c0_0) := (blk_cell BK241.out 0).trans rfl
       have hcz60_1 : w55.cell? ⟨gb241, 1, none⟩ = some (.slice A0_1 l0_1.length c0_1) := (blk_cell BK241.out 1).trans rfl
       have hfz60_0 := blk_frozen BK241.out 0
       have hfz60_1 := blk_frozen BK241.out 1
       try go_wp2
       go_loopg [50] kj2 (fun kq v50 w' => ∃ (x50_2 : Int) (x261001_2 : List Int) (u261001 : Value), v50 = .int .i64 x50_2 ∧ Aside0 (impl_Pick.l0 kq t246 l0_1 (l0_1.length : Int) x50_2 t257 x261001_2 = some (r1, r2, r3)) ∧ Aside0 (kq ≤ kj2) ∧ Aside0 (Kd.N k28 28 w' w.heap.size (fun k_ => ((P0_0_ k_ ∨ P1_0_ k_) ∨ w.heap.size ≤ k_) ∧ some k_ ≠ ((.slice Ao56 t257.length co56) : Value).ownBlock ∧ some k_ ≠ (u261001 : Value).ownBlock ∧ k_ ≠ gb241 ∧ k_ ≠ gb242 ∧ k_ ≠ gb243 ∧ k_ ≠ gb260) v247 t246) ∧ Aside0 (Kd.V (Kd.int .i64) 3 w' w.heap.size (fun k_ => ((P0_0_ k_ ∨ P1_0_ k_) ∨ w.heap.size ≤ k_) ∧ some k_ ≠ (v247 : Value).ownBlock ∧ some k_ ≠ ((.slice Ao56 t257.length co56) : Value).ownBlock ∧ some k_ ≠ (u261001 : Value).ownBlock ∧ k_ ≠ gb241 ∧ k_ ≠ gb242 ∧ k_ ≠ gb243 ∧ k_ ≠ gb260) (.slice A0_0 l0_0.length c0_0) l0_0) ∧ Aside0 (Kd.V (Kd.int .i64) 3 w' w.heap.size (fun k_ => ((P0_0_ k_ ∨ P1_0_ k_) ∨ w.heap.size ≤ k_) ∧ some k_ ≠ (v247 : Value).ownBlock ∧ some k_ ≠ ((.slice Ao56 t257.length co56) : Value).ownBlock ∧ some k_ ≠ (u261001 : Value).ownBlock ∧ k_ ≠ gb241 ∧ k_ ≠ gb242 ∧ k_ ≠ gb243 ∧ k_ ≠ gb260) (.slice A1_0 l1_0.length c1_0) l1_0) ∧ Aside0 (Kd.R (Kd.int .i64) 3 w' w.heap.size (fun k_ => (w.heap.size ≤ k_) ∧ some k_ ≠ (u261001 : Value).ownBlock) (.slice Ao56 t257.length co56) t257) ∧ Aside0 (Kd.R (Kd.int .i64) 3 w' w.heap.size (fun k_ => (w.heap.size ≤ k_) ∧ some k_ ≠ ((.slice Ao56 t257.length co56) : Value).ownBlock) u261001 x261001_2) ∧ Aside0 (w'.heap[gb241]? = some (.cells #[(.slice A0_0 l0_0.length c0_0), (.slice A0_1 l0_1.length c0_1)] 28 (0, 0))) ∧ Aside0 (w'.heap[gb242]? = some (.cells #[(.slice A1_0 l1_0.length c1_0), (.slice A1_1 l1_1.length c1_1)] 28 (0, 0))) ∧ Aside0 (w'.heap[gb243]? = some (.cells #[(.slice none 0 0), (.slice none 0 0)] 28 (0, 0))) ∧ Aside0 (w'.heap[gb260]? = some (.cells #[(.slice Ao56 t257.length co56), u261001] 28 (0, 0))) ∧ Aside0 (Below w.heap.size w w'))
       case atStart => exact ⟨(0), (([] : List Int)), (.slice none 0 0), (by first | rfl | (simp; done) | (simp [*]; done)), H', ⟨Nat.le_refl _⟩, ⟨by refine NU ?_; exact Kd.N_mono (Kd.N_far (p := ⟨gb260, 1, none⟩) (Kd.N_far (p := ⟨gb260, 0, none⟩) (Kd.N_mono HO248.out (fun k_ hk => (⟨hk, hk.2.2.2.2.2.2⟩ : _ ∧ k_ ≠ gb260))) (fun _ hk => hk.2) (.slice Ao56 t257.length co56)) (fun _ hk => hk.2) (.slice none 0 0)) (fun _ hk => ⟨hk.1.1, ⟨hk.1.2.2.1, ⟨(by simp [Value.ownBlock]), ⟨hk.1.2.2.2.1, ⟨hk.1.2.2.2.2.1, ⟨hk.1.2.2.2.2.2.1, hk.1.2.2.2.2.2.2⟩⟩⟩⟩⟩⟩)⟩, ⟨by refine VU ?_; exact Kd.V_mono (Kd.V_far (p := ⟨gb260, 1, none⟩) (Kd.V_far (p := ⟨gb260, 0, none⟩) (Kd.V_mono HO_242000.out (fun k_ hk => (⟨hk, hk.2.2.2.2.2.2.2⟩ : _ ∧ k_ ≠ gb260))) (fun _ hk => hk.2) (.slice Ao56 t257.length co56)) (fun _ hk => hk.2) (.slice none 0 0)) (fun _ hk => ⟨hk.1.1, ⟨hk.1.2.1, ⟨hk.1.2.2.2.1, ⟨(by simp [Value.ownBlock]), ⟨hk.1.2.2.2.2.1, ⟨hk.1.2.2.2.2.2.1, ⟨hk.1.2.2.2.2.2.2.1, hk.1.2.2.2.2.2.2.2⟩⟩⟩⟩⟩⟩⟩)⟩, ⟨by refine VU ?_; exact Kd.V_mono (Kd.V_far (p := ⟨gb260, 1, none⟩) (Kd.V_far (p := ⟨gb260, 0, none⟩) (Kd.V_mono HO_243000.out (fun k_ hk => (⟨hk, hk.2.2.2.2.2.2.2⟩ : _ ∧ k_ ≠ gb260))) (fun _ hk => hk.2) (.slice Ao56 t257.length co56)) (fun _ hk => hk.2) (.slice none 0 0)) (fun _ hk => ⟨hk.1.1, ⟨hk.1.2.1, ⟨hk.1.2.2.2.1, ⟨(by simp [Value.ownBlock]), ⟨hk.1.2.2.2.2.1, ⟨hk.1.2.2.2.2.2.1, ⟨hk.1.2.2.2.2.2.2.1, hk.1.2.2.2.2.2.2.2⟩⟩⟩⟩⟩⟩⟩)⟩, ⟨by refine RU ?_; exact Kd.R_mono (Kd.R_far (p := ⟨gb260, 1, none⟩) (Kd.R_far (p := ⟨gb260, 0, none⟩) (Kd.R_types HO259.out BK260.out (by decide)) (fun _ hk => hk.2) (.slice Ao56 t257.length co56)) (fun _ hk => hk.2) (.slice none 0 0)) (fun _ hk => ⟨hk.1, (by simp [Value.ownBlock])⟩)⟩, ⟨by first | exact Kd.R_nil _ _ _ _ _ | exact Kd.N_nil _ _ _ _ _ | exact Kd.V_nil _ _ _ _ _ | exact Kd.Q_nil _ _ _ _ _ | exact Kd.S_nil _ _ _ _ _⟩, ⟨by refine kU ?_; refine blk_far ?_ NB241_260.out _; refine kU ?_; refine blk_far ?_ NB241_260.out _; refine kU ?_; exact BK241.out⟩, ⟨by refine kU ?_; refine blk_far ?_ NB242_260.out _; refine kU ?_; refine blk_far ?_ NB242_260.out _; refine kU ?_; exact BK242.out⟩, ⟨by refine kU ?_; refine blk_far ?_ NB243_260.out _; refine kU ?_; refine blk_far ?_ NB243_260.out _; refine kU ?_; exact BK243.out⟩, ⟨by refine kU ?_; refine blk_put (cs := #[.slice Ao56 t257.length co56, .slice none 0 0]) ?_ 1 _ rfl; refine kU ?_; refine blk_put (cs := #[.slice none 0 0, .slice none 0 0]) ?_ 0 _ rfl; refine kU ?_; exact BK260.out⟩, ⟨by exact bS4 HB.out GE241.out GE242.out GE243.out GE260.out⟩⟩
       case round =>
        clear H'
        try clear c1
        try clear c2
        try clear p2
        try clear c4
        try clear q4
        try clear c5
        try clear c29
        try clear c48
        try clear q48
        try clear c59
        try clear hcz60_0
        try clear hcz60_1
        try clear hfz60_0
        try clear hfz60_1
        try clear q48
        obtain ⟨x50_2, x261001_2, u261001, rfl, HA, HK2, HO_6, HO_242000, HO_243000, HO_261000, HO_261001, BK241, BK242, BK243, BK260, HB⟩ := hrel
        cases gk with
        | zero => exact absurd HA.out (by simp [impl_Pick.l0])
        | succ k2 =>
         have H := HA.out
         clear HA
         simp only [impl_Pick.l0] at H
         by_cases c61 : x50_2 < (l0_1.length : Int)
         ·
          rw [if_pos c61] at H
          have c61b0 : decide (x50_2 < (l0_1.length : Int)) = true := decide_eq_true c61
          clear c61
          by_cases c62 : 0 ≤ x50_2
          ·
           rw [if_pos c62] at H
           have c62b0 : decide (0 ≤ x50_2) = true := decide_eq_true c62
           clear c62
           by_cases c63 : x50_2 < (l0_1.length : Int)
           ·
            rw [if_pos c63] at H
            have c63b0 : decide (x50_2 < (l0_1.length : Int)) = true := decide_eq_true c63
            clear c63
            by_cases c64 : (rd l0_1 x50_2) < 0
            ·
             rw [if_pos c64] at H
             have c64b0 : decide ((rd l0_1 x50_2) < 0) = true := decide_eq_true c64
             clear c64
             replace H := Option.bind_eq_some_iff.mp H
             obtain ⟨t263, A650, H⟩ := H
             replace H : (if t263 = true then (if 0 ≤ (wrap64 ((rd l0_1 x50_2) + (t246.length : Int))) then (if (wrap64 ((rd l0_1 x50_2) + (t246.length : Int))) < (t246.length : Int) then (if x261001_2.length + ((rd_T28 t246 (wrap64 ((rd l0_1 x50_2) + (t246.length : Int)))).f1).length < 17592186044416 then (impl_Pick.l0 k2 t246 l0_1 (l0_1.length : Int) (wrap64 (x50_2 + 1)) t257 (x261001_2 ++ ((rd_T28 t246 (wrap64 ((rd l0_1 x50_2) + (t246.length : Int)))).f1))) else (none)) else (none)) else (none)) else (some (([] : List Int), ([] : List Int), 5))) = some (r1, r2, r3) := H
             have A65 := Aside0.mk A650
             clear A650
             by_cases c66 : t263 = true
             ·
              subst c66
              have H1 : (if 0 ≤ (wrap64 ((rd l0_1 x50_2) + (t246.length : Int))) then (if (wrap64 ((rd l0_1 x50_2) + (t246.length : Int))) < (t246.length : Int) then (if x261001_2.length + ((rd_T28 t246 (wrap64 ((rd l0_1 x50_2) + (t246.length : Int)))).f1).length < 17592186044416 then (impl_Pick.l0 k2 t246 l0_1 (l0_1.length : Int) (wrap64 (x50_2 + 1)) t257 (x261001_2 ++ ((rd_T28 t246 (wrap64 ((rd l0_1 x50_2) + (t246.length : Int)))).f1))) else (none)) else (none)) else (none)) = some (r1, r2, r3) := by rw [if_pos rfl] at H; exact H
              clear H
              have H := H1
              clear H1
              obtain ⟨ji67, hji67⟩ : ∃ j_ : Int, (wrap64 ((rd l0_1 x50_2) + (t246.length : Int))) = j_ := ⟨_, rfl⟩
              replace H : (if 0 ≤ (ji67) then (if (ji67) < (t246.length : Int) then (if x261001_2.length + ((rd_T28 t246 (ji67)).f1).length < 17592186044416 then (impl_Pick.l0 k2 t246 l0_1 (l0_1.length : Int) (wrap64 (x50_2 + 1)) t257 (x261001_2 ++ ((rd_T28 t246 (ji67)).f1))) else (none)) else (none)) else (none)) = some (r1, r2, r3) := by first | (rw [hji67] at H; exact H) | (simp only [hji67] at H ⊢; exact H)
              (try rw [hji67] at A65)
              have hji67w : (IntKind.i64.wrap ((rd l0_1 x50_2) + (t246.length : Int))) = ji67 := (i64_w _).trans hji67
              by_cases c68 : 0 ≤ (ji67)
              ·
               rw [if_pos c68] at H
               have c68b0 : decide (0 ≤ (ji67)) = true := decide_eq_true c68
               clear c68
               by_cases c69 : (ji67) < (t246.length : Int)
               ·
                rw [if_pos c69] at H
                have c69b0 : decide ((ji67) < (t246.length : Int)) = true := decide_eq_true c69
                clear c69
                by_cases c70 : x261001_2.length + ((rd_T28 t246 (ji67)).f1).length < 17592186044416
                ·
                 rw [if_pos c70] at H
                 have LMc70 := Aside0.mk c70
                 clear c70
                 obtain ⟨y265, hy265⟩ : ∃ y_ : List Int, y_ = (x261001_2 ++ ((rd_T28 t246 (ji67)).f1)) := ⟨_, rfl⟩
                 replace H : (impl_Pick.l0 k2 t246 l0_1 (l0_1.length : Int) (wrap64 (x50_2 + 1)) t257 y265) = some (r1, r2, r3) := by first | (rw [hy265]; with_reducible exact H) | (have H2_ := (Option.bind_some _ _).symm.trans H; rw [hy265]; with_reducible exact H2_) | (have H2_ := (Option.bind_some _ _).symm.trans H; with_reducible exact H2_) | with_reducible exact H | (rw [hy265]; exact H) | exact H
                 have Ny265 := Aside0.mk hy265
                 clear hy265
                 have H' := Aside0.mk H
                 clear H
                 have p262 : 0 ≤ (x50_2 : Int) := of_decide_eq_true (by first | (with_reducible assumption) | assumption)
                 have q262 : x50_2 < (l0_1.length : Int) := of_decide_eq_true (by first | (with_reducible assumption) | assumption)
                 obtain ⟨ad262, e262, hx262_0⟩ := Kd.at_int HR0_1.out x50_2 p262 q262
                 cases e262
                 replace hx262_0 := (HB.out.cell (World.block_lt_of_cell? w _ hx262_0)).trans hx262_0
                 replace p262 := eq_true p262
                 replace q262 := eq_true q262
                 obtain ⟨Ao71, co71, eo71⟩ := Kd.N_slice HO_6.out
                 subst eo71
                 try go_wp2_with (first | ((with_reducible refine gate_callee (f := 30) rfl ?_); refine goesL_ (some 64) rfl rfl Try.func30 (by kernel_rfl) rfl #[.int .i64 ji67, .int .i64 0, .int .i64 (wrap64 ((t246.length : Int) - 1))] rfl (by (try simp only [List.map_toArray, List.map_cons, List.map_nil]); first | done | (simp only [hji67]; rfl) | rfl | (simp only [List.length_drop, List.length_take]; rfl)) ?_; (with_reducible refine (impl_within.calls ji67 0 (wrap64 ((t246.length : Int) - 1)) true _ A65.out).mono ?_); rintro e w' ⟨rfl, ⟨nd, rfl⟩⟩; refine ⟨_, rfl, ?_⟩; (try (rw [drewN_self wr]; generalize hq_ : World.drewN wr _ = wr; have n0_ : Aside0 (Kd.V (Kd.int .i64) 3 wr w.heap.size (fun k_ => ((P0_0_ k_ ∨ P1_0_ k_) ∨ w.heap.size ≤ k_) ∧ some k_ ≠ (.slice Ao56 t257.length co56 : Value).ownBlock ∧ some k_ ≠ (u261001 : Value).ownBlock ∧ some k_ ≠ (.slice Ao71 t246.length co71 : Value).ownBlock ∧ k_ ≠ gb241 ∧ k_ ≠ gb242 ∧ k_ ≠ gb243 ∧ k_ ≠ gb260) (.slice A0_0 l0_0.length c0_0) l0_0) := ⟨by rw [← hq_]; exact (by refine VU ?_; exact Kd.V_mono HO_242000.out (fun _ hk => ⟨hk.1, ⟨hk.2.2.1, ⟨hk.2.2.2.1, ⟨hk.2.1, ⟨hk.2.2.2.2.1, ⟨hk.2.2.2.2.2.1, ⟨hk.2.2.2.2.2.2.1, hk.2.2.2.2.2.2.2⟩⟩⟩⟩⟩⟩⟩))⟩; have n1_ : Aside0 (Kd.V (Kd.int .i64) 3 wr w.heap.size (fun k_ => ((P0_0_ k_ ∨ P1_0_ k_) ∨ w.heap.size ≤ k_) ∧ some k_ ≠ (.slice Ao56 t257.length co56 : Value).ownBlock ∧ some k_ ≠ (u261001 : Value).ownBlock ∧ some k_ ≠ (.slice Ao71 t246.length co71 : Value).ownBlock ∧ k_ ≠ gb241 ∧ k_ ≠ gb242 ∧ k_ ≠ gb243 ∧ k_ ≠ gb260) (.slice A1_0 l1_0.length c1_0) l1_0) := ⟨by rw [← hq_]; exact (by refine VU ?_; exact Kd.V_mono HO_243000.out (fun _ hk => ⟨hk.1, ⟨hk.2.2.1, ⟨hk.2.2.2.1, ⟨hk.2.1, ⟨hk.2.2.2.2.1, ⟨hk.2.2.2.2.2.1, ⟨hk.2.2.2.2.2.2.1, hk.2.2.2.2.2.2.2⟩⟩⟩⟩⟩⟩⟩))⟩; have n2_ : Aside0 (Kd.R (Kd.int .i64) 3 wr w.heap.size (fun k_ => (w.heap.size ≤ k_) ∧ some k_ ≠ (u261001 : Value).ownBlock) (.slice Ao56 t257.length co56) t257) := ⟨by rw [← hq_]; exact (RU HO_261000.out)⟩; have n3_ : Aside0 (Kd.R (Kd.int .i64) 3 wr w.heap.size (fun k_ => (w.heap.size ≤ k_) ∧ some k_ ≠ (.slice Ao56 t257.length co56 : Value).ownBlock) u261001 x261001_2) := ⟨by rw [← hq_]; exact (RU HO_261001.out)⟩; have n4_ : Aside0 (Kd.N k28 28 wr w.heap.size (fun k_ => ((P0_0_ k_ ∨ P1_0_ k_) ∨ w.heap.size ≤ k_) ∧ some k_ ≠ (.slice Ao56 t257.length co56 : Value).ownBlock ∧ some k_ ≠ (u261001 : Value).ownBlock ∧ k_ ≠ gb241 ∧ k_ ≠ gb242 ∧ k_ ≠ gb243 ∧ k_ ≠ gb260) (.slice Ao71 t246.length co71) t246) := ⟨by rw [← hq_]; exact (NU HO_6.out)⟩; have n5_ : Aside0 (wr.heap[gb241]? = some (.cells #[.slice A0_0 l0_0.length c0_0, .slice (some ad262) l0_1.length c0_1] 28 (0, 0))) := ⟨by rw [← hq_]; exact (kU BK241.out)⟩; have n6_ : Aside0 (wr.heap[gb242]? = some (.cells #[.slice A1_0 l1_0.length c1_0, .slice A1_1 l1_1.length c1_1] 28 (0, 0))) := ⟨by rw [← hq_]; exact (kU BK242.out)⟩; have n7_ : Aside0 (wr.heap[gb243]? = some (.cells #[.slice none 0 0, .slice none 0 0] 28 (0, 0))) := ⟨by rw [← hq_]; exact (kU BK243.out)⟩; have n8_ : Aside0 (wr.heap[gb260]? = some (.cells #[.slice Ao56 t257.length co56, u261001] 28 (0, 0))) := ⟨by rw [← hq_]; exact (kU BK260.out)⟩; have n9_ : Aside0 (Below w.heap.size w wr) := ⟨by rw [← hq_]; exact (bS4 HB.out GE241.out GE242.out GE243.out GE260.out)⟩; clear HO_242000 HO_243000 HO_261000 HO_261001 HO_6 BK241 BK242 BK243 BK260 HB hq_; have HO_242000 := n0_; have HO_243000 := n1_; have HO_261000 := n2_; have HO_261001 := n3_; have HO_6 := n4_; have BK241 := n5_; have BK242 := n6_; have BK243 := n7_; have BK260 := n8_; have HB := n9_; clear n0_ n1_ n2_ n3_ n4_ n5_ n6_ n7_ n8_ n9_))))
                 replace HO_6 := Aside0.mk (Kd.N_drew HO_6.out)
                 replace HO_242000 := Aside0.mk (Kd.V_drew HO_242000.out)
                 replace HO_243000 := Aside0.mk (Kd.V_drew HO_243000.out)
                 replace HO_261000 := Aside0.mk (Kd.R_drew HO_261000.out)
                 replace HO_261001 := Aside0.mk (Kd.R_drew HO_261001.out)
                 replace BK241 := Aside0.mk (blk_drew BK241.out)
                 replace BK242 := Aside0.mk (blk_drew BK242.out)
                 replace BK243 := Aside0.mk (blk_drew BK243.out)
                 replace BK260 := Aside0.mk (blk_drew BK260.out)
                 replace HB := Aside0.mk (below_drew1 HB.out)
                 have p264 : 0 ≤ ((ji67) : Int) := of_decide_eq_true (by first | (with_reducible assumption) | assumption)
                 have q264 : (ji67) < (t246.length : Int) := of_decide_eq_true (by first | (with_reducible assumption) | assumption)
                 obtain ⟨ad264, A264_0, c264_0, A264_1, c264_1, e264, hx264_0, hx264_1, hl264_0, hi264_0, hl264_1, hi264_1⟩ := at_T28 (Kd.N_reads' HO_6.out).2.2 (ji67) p264 q264
                 cases e264
                 obtain ⟨ce264, hce264, hMe264, hcc264⟩ := Kd.N_get HO_6.out z28 (ji67) p264 (by first | exact q264 | exact of_decide_eq_true (by first | (with_reducible assumption) | assumption) | (have e_ := (Kd.N_reads' HO_6.out).1; omega))
                 obtain ⟨ua264_0, uc264_0, ua264_1, uc264_1, rfl, ul264_0, ge264_0, ul264_1, ge264_1⟩ := k28_openF hMe264
                 have hv264_0 := hcc264 0 _ rfl
                 rw [Nat.add_zero] at hv264_0
                 replace hv264_0 := Option.some.inj (hv264_0.symm.trans hx264_0)
                 injection hv264_0 with hva_ hvn_ hvc_
                 rw [hva_] at ge264_0
                 rw [hvc_] at ul264_0
                 have HL264_0 := Aside0.mk (show Kd.V (Kd.int .i64) 3 _ w.heap.size _ _ ((rd_T28 t246 (ji67)).f0) from Kd.V_mk ul264_0 ge264_0)
                 clear hva_ hvn_ hvc_ ge264_0 ul264_0
                 have hv264_1 := hcc264 1 _ rfl
                 rw [add_field _ _ 1 (by omega)] at hv264_1
                 replace hv264_1 := Option.some.inj (hv264_1.symm.trans hx264_1)
                 injection hv264_1 with hva_ hvn_ hvc_
                 rw [hva_] at ge264_1
                 rw [hvc_] at ul264_1
                 have HL264_1 := Aside0.mk (show Kd.V (Kd.int .i64) 3 _ w.heap.size _ _ ((rd_T28 t246 (ji67)).f1) from Kd.V_mk ul264_1 ge264_1)
                 clear hva_ hvn_ hvc_ ge264_1 ul264_1
                 clear hcc264 hce264
                 have HR264_0 := Aside0.mk hi264_0
                 have HC264_0 := Aside0.mk hl264_0
                 clear hi264_0 hl264_0
                 have HR264_1 := Aside0.mk hi264_1
                 have HC264_1 := Aside0.mk hl264_1
                 clear hi264_1 hl264_1
                 replace p264 := eq_true p264
                 replace q264 := eq_true q264
                 refine start_ (n := 10) (S := fun w' => w'.cell? ⟨gb260, 0, none⟩ = some (.slice Ao56 t257.length co56) ∧ w'.cell? ⟨gb260, 1, none⟩ = some (u261001) ∧ w'.cell? (ad264.add (((ji67)).toNat * 2)) = some (.slice A264_0 ((rd_T28 t246 (ji67)).f0).length c264_0) ∧ w'.cell? ⟨(ad264.add (((ji67)).toNat * 2)).block, (ad264.add (((ji67)).toNat * 2)).off + 1, none⟩ = some (.slice A264_1 ((rd_T28 t246 (ji67)).f1).length c264_1)) (ds := [7, 9]) #[false, false, false, false, false, false, false, false, false, false] (by kernel_rfl) rfl rfl ⟨(blk_cell BK260.out 0).trans rfl, (blk_cell BK260.out 1).trans rfl, hx264_0, hx264_1⟩ (fun hHeld => ?_); refine with_tabW impl_Pick.tab14 impl_Pick.bits14 (fun HT_ HW_ => ?_)
                 generalize wr.drew = w72 at HO_6 HO_242000 HO_243000 HO_261000 HO_261001 BK241 BK242 BK243 BK260 HB HL264_0 HL264_1 HR264_0 HR264_1 hx264_0 hx264_1 hHeld ⊢
                 refine pure_ (i := 0) (N := some 67) (v := ?_) (a' := ?_) #[true, false, false, false, false, false, false, false, false, false] rfl rfl (any_of HT_.out (by kernel_rfl)) (fun _ _ _ h => h) (Or.inl ⟨by rfl, ?_⟩) ?_ ?_
                 rotate_left
                 ·
                  intro w'
                  go_simp
                  with_reducible rfl
                 rotate_left
                 ·
                  simp only [Act.put, List.setIfInBounds_toArray, List.set_cons_zero, List.set_cons_succ, i64_w, i32_w]
                  rfl
                 refine pure_ (i := 2) (N := some 69) (v := ?_) (a' := ?_) #[true, false, true, false, false, false, false, false, false, false] rfl rfl (any_of HT_.out (by kernel_rfl)) (fun _ _ _ h => h) (Or.inl ⟨by rfl, ?_⟩) ?_ ?_
                 rotate_left
                 ·
                  intro w'
                  go_simp
                  with_reducible rfl
                 rotate_left
                 ·
                  simp only [Act.put, List.setIfInBounds_toArray, List.set_cons_zero, List.set_cons_succ, i64_w, i32_w]
                  rfl
                 refine pure_ (i := 3) (N := some 70) (v := ?_) (a' := ?_) #[true, false, true, true, false, false, false, false, false, false] rfl rfl (any_of HT_.out (by kernel_rfl)) (fun _ _ _ h => h) (Or.inl ⟨by rfl, ?_⟩) ?_ ?_
                 rotate_left
                 ·
                  intro w'
                  go_simp
                  with_reducible rfl
                 rotate_left
                 ·
                  simp only [Act.put, List.setIfInBounds_toArray, List.set_cons_zero, List.set_cons_succ, i64_w, i32_w]
                  rfl
                 refine pure_ (i := 4) (N := some 71) (v := ?_) (a' := ?_) #[true, false, true, true, true, false, false, false, false, false] rfl rfl (any_of HT_.out (by kernel_rfl)) (fun _ _ _ h => h) (Or.inl ⟨by rfl, ?_⟩) ?_ ?_
                 rotate_left
                 ·
                  intro w'
                  go_simp
                  with_reducible rfl
                 rotate_left
                 ·
                  simp only [Act.put, List.setIfInBounds_toArray, List.set_cons_zero, List.set_cons_succ, i64_w, i32_w]
                  rfl
                 refine pure_ (i := 5) (N := some 72) (v := ?_) (a' := ?_) #[true, false, true, true, true, true, false, false, false, false] rfl rfl (any_of HT_.out (by kernel_rfl)) (fun _ _ _ h => h) (Or.inl ⟨by rfl, ?_⟩) ?_ ?_
                 rotate_left
                 ·
                  intro w'
                  go_simp
                  with_reducible rfl
                 rotate_left
                 ·
                  simp only [Act.put, List.setIfInBounds_toArray, List.set_cons_zero, List.set_cons_succ, i64_w, i32_w]
                  rfl
                 refine take_ (i := 1) (N := some 68) (v := ?_) (a' := ?_) #[true, true, true, true, true, true, false, false, false, false] rfl rfl (take_ofW HT_.out HW_.out (by kernel_rfl)) (fun _ _ _ h => h) (Or.inl ⟨by rfl, ?_⟩) hHeld ?_ ?_
                 rotate_left
                 ·
                  rintro w' ⟨s0, s1, s2, s3⟩
                  go_simp
                  with_reducible rfl
                 rotate_left
                 ·
                  simp only [Act.put, List.setIfInBounds_toArray, List.set_cons_zero, List.set_cons_succ, i64_w, i32_w]
                  rfl
                 refine take_ (i := 6) (N := some 73) (v := ?_) (a' := ?_) #[true, true, true, true, true, true, true, false, false, false] rfl rfl (take_ofW HT_.out HW_.out (by kernel_rfl)) (fun _ _ _ h => h) (Or.inl ⟨by rfl, ?_⟩) hHeld ?_ ?_
                 rotate_left
                 ·
                  rintro w' ⟨s0, s1, s2, s3⟩
                  go_simp
                  with_reducible rfl
                 rotate_left
                 ·
                  simp only [Act.put, List.setIfInBounds_toArray, List.set_cons_zero, List.set_cons_succ, i64_w, i32_w]
                  rfl
                 refine last_ (i := 7) (N := some 74) #[true, true, true, true, true, true, true, true, false, false] rfl rfl (one_of HT_.out (by kernel_rfl)) (by decide) (fun K hK => ?_)
                 refine Kd.R_append_rows_step (Kd.int .i64) (w0 := w) w.heap.size (by rfl) (.tmp 68) (.tmp 73) 22 3 (.int .i64 0) 8 rfl Try.underlying22 info3 rfl (by decide) (by omega) u261001 x261001_2 ((rd_T28 t246 (ji67)).f1) _ _ _ (fun k_ => (w.heap.size ≤ k_) ∧ some k_ ≠ (.slice Ao56 t257.length co56 : Value).ownBlock) (fun _ => False) rfl rfl ?aO ?aR (fun _ _ h => h) (fun _ h => h.elim) ?aF ?aB ?aS ?aL ?_
                 (case aR => repeat (first | exact (by repeat (first | (with_reducible exact HR264_1.out) | (with_reducible refine Kd.C_alloc ?_ _) | (with_reducible refine Kd.C_drewN ?_ _) | (with_reducible refine Kd.C_drew ?_) | exact HR264_1.out)) | (with_reducible refine Kd.C_alloc ?_ _) | (with_reducible refine Kd.C_drewN ?_ _) | (with_reducible refine Kd.C_drew ?_)))
                 (case aB => exact (bS4 HB.out GE241.out GE242.out GE243.out GE260.out))
                 (case aF => exact (fun k_ hk => ⟨(Nat.le_trans (below_size (bS4 HB.out GE241.out GE242.out GE243.out GE260.out)) hk), Kd.fresh' (Kd.R_lt (RU HO_261000.out)) k_ hk⟩))
                 (case aO => exact (RU HO_261001.out))
                 (case aS => exact (below_size (bS4 HB.out GE241.out GE242.out GE243.out GE260.out)))
                 (case aL => have := LMc70.out; omega)
                 intro v266 w73 ho hb hg hat
                 rw [← Ny265.out] at ho
                 have n0_ := Aside0.mk (Kd.N_afterv (ok := (fun k_ => ((P0_0_ k_ ∨ P1_0_ k_) ∨ w.heap.size ≤ k_) ∧ some k_ ≠ (.slice Ao56 t257.length co56 : Value).ownBlock ∧ k_ ≠ gb241 ∧ k_ ≠ gb242 ∧ k_ ≠ gb243 ∧ k_ ≠ gb260)) (by refine NU ?_; exact Kd.N_mono HO_6.out (fun _ hk => ⟨⟨hk.1, ⟨hk.2.1, ⟨hk.2.2.2.1, ⟨hk.2.2.2.2.1, ⟨hk.2.2.2.2.2.1, hk.2.2.2.2.2.2⟩⟩⟩⟩⟩, hk.2.2.1⟩)) hg hat)
                 have n1_ := Aside0.mk (Kd.V_afterv (ok := (fun k_ => ((P0_0_ k_ ∨ P1_0_ k_) ∨ w.heap.size ≤ k_) ∧ some k_ ≠ (.slice (some ad264) t246.length co71 : Value).ownBlock ∧ some k_ ≠ (.slice Ao56 t257.length co56 : Value).ownBlock ∧ k_ ≠ gb241 ∧ k_ ≠ gb242 ∧ k_ ≠ gb243 ∧ k_ ≠ gb260)) (by refine VU ?_; exact Kd.V_mono HO_242000.out (fun _ hk => ⟨⟨hk.1, ⟨hk.2.2.2.1, ⟨hk.2.1, ⟨hk.2.2.2.2.1, ⟨hk.2.2.2.2.2.1, ⟨hk.2.2.2.2.2.2.1, hk.2.2.2.2.2.2.2⟩⟩⟩⟩⟩⟩, hk.2.2.1⟩)) hg hat)
                 have n2_ := Aside0.mk (Kd.V_afterv (ok := (fun k_ => ((P0_0_ k_ ∨ P1_0_ k_) ∨ w.heap.size ≤ k_) ∧ some k_ ≠ (.slice (some ad264) t246.length co71 : Value).ownBlock ∧ some k_ ≠ (.slice Ao56 t257.length co56 : Value).ownBlock ∧ k_ ≠ gb241 ∧ k_ ≠ gb242 ∧ k_ ≠ gb243 ∧ k_ ≠ gb260)) (by refine VU ?_; exact Kd.V_mono HO_243000.out (fun _ hk => ⟨⟨hk.1, ⟨hk.2.2.2.1, ⟨hk.2.1, ⟨hk.2.2.2.2.1, ⟨hk.2.2.2.2.2.1, ⟨hk.2.2.2.2.2.2.1, hk.2.2.2.2.2.2.2⟩⟩⟩⟩⟩⟩, hk.2.2.1⟩)) hg hat)
                 have n3_ := Aside0.mk (Kd.R_after (ok := (fun k_ => (w.heap.size ≤ k_))) (RU HO_261000.out) hg hat)
                 have n4_ := Aside0.mk (blk_grown (g := gb241) (o := .cells #[.slice A0_0 l0_0.length c0_0, .slice (some ad262) l0_1.length c0_1] 28 (0, 0)) (kU BK241.out) hg (Kd.R_ne HO_261001.out BK241.out (by decide)))
                 have n5_ := Aside0.mk (blk_grown (g := gb242) (o := .cells #[.slice A1_0 l1_0.length c1_0, .slice A1_1 l1_1.length c1_1] 28 (0, 0)) (kU BK242.out) hg (Kd.R_ne HO_261001.out BK242.out (by decide)))
                 have n6_ := Aside0.mk (blk_grown (g := gb243) (o := .cells #[.slice none 0 0, .slice none 0 0] 28 (0, 0)) (kU BK243.out) hg (Kd.R_ne HO_261001.out BK243.out (by decide)))
                 have n7_ := Aside0.mk (blk_grown (g := gb260) (o := .cells #[.slice Ao56 t257.length co56, u261001] 28 (0, 0)) (kU BK260.out) hg (Kd.R_ne HO_261001.out BK260.out (by decide)))
                 have n8_ := Aside0.mk (Kd.V_afterv (ok := (fun k_ => ((P0_0_ k_ ∨ P1_0_ k_) ∨ w.heap.size ≤ k_) ∧ some k_ ≠ (.slice (some ad264) t246.length co71 : Value).ownBlock ∧ some k_ ≠ (.slice Ao56 t257.length co56 : Value).ownBlock ∧ k_ ≠ gb241 ∧ k_ ≠ gb242 ∧ k_ ≠ gb243 ∧ k_ ≠ gb260)) (by refine VU ?_; exact Kd.V_mono HL264_0.out (fun _ hk => ⟨⟨hk.1.1, ⟨hk.2, ⟨hk.1.2.1, ⟨hk.1.2.2.2.1, ⟨hk.1.2.2.2.2.1, ⟨hk.1.2.2.2.2.2.1, hk.1.2.2.2.2.2.2⟩⟩⟩⟩⟩⟩, hk.1.2.2.1⟩)) hg hat)
                 have n9_ := Aside0.mk (Kd.V_afterv (ok := (fun k_ => ((P0_0_ k_ ∨ P1_0_ k_) ∨ w.heap.size ≤ k_) ∧ some k_ ≠ (.slice (some ad264) t246.length co71 : Value).ownBlock ∧ some k_ ≠ (.slice Ao56 t257.length co56 : Value).ownBlock ∧ k_ ≠ gb241 ∧ k_ ≠ gb242 ∧ k_ ≠ gb243 ∧ k_ ≠ gb260)) (by refine VU ?_; exact Kd.V_mono HL264_1.out (fun _ hk => ⟨⟨hk.1.1, ⟨hk.2, ⟨hk.1.2.1, ⟨hk.1.2.2.2.1, ⟨hk.1.2.2.2.2.1, ⟨hk.1.2.2.2.2.2.1, hk.1.2.2.2.2.2.2⟩⟩⟩⟩⟩⟩, hk.1.2.2.1⟩)) hg hat)
                 have n10_ := Aside0.mk (hb)
                 have n11_ := Aside0.mk (ho)
                 clear HO_6 HO_242000 HO_243000 HO_261000 BK241 BK242 BK243 BK260 HL264_0 HL264_1 HB HO_261001
                 have HO_6 := n0_
                 have HO_242000 := n1_
                 have HO_243000 := n2_
                 have HO_261000 := n3_
                 have BK241 := n4_
                 have BK242 := n5_
                 have BK243 := n6_
                 have BK260 := n7_
                 have HL264_0 := n8_
                 have HL264_1 := n9_
                 have HB := n10_
                 have HO267 := n11_
                 clear n0_ n1_ n2_ n3_ n4_ n5_ n6_ n7_ n8_ n9_ n10_ n11_
                 clear ho hb hg hat
                 obtain ⟨Ao74, co74, eo74⟩ := Kd.R_slice HO267.out
                 (first | subst eo74 | (injection eo74 with f1_ f2_ f3_; have f4_ := f1_.symm; have f5_ := f3_.symm; clear f1_ f2_ f3_; subst f4_; subst f5_))
                 refine hK.out _ _ ?_
                 clear hK K
                 refine norm_ (a' := ?_) ?_ ?_
                 rotate_left
                 ·
                  show Act.put _ (some 74) _ = _
                  simp only [Act.put, List.setIfInBounds_toArray, List.set_cons_zero, List.set_cons_succ, i64_w, i32_w]
                  rfl
                 refine pure_ (i := 8) (N := some 75) (v := ?_) (a' := ?_) #[true, true, true, true, true, true, true, true, true, false] rfl rfl (any_of HT_.out (by kernel_rfl)) (fun _ _ _ h => h) (Or.inl ⟨by rfl, ?_⟩) ?_ ?_
                 rotate_left
                 ·
                  intro w'
                  go_simp
                  with_reducible rfl
                 rotate_left
                 ·
                  simp only [Act.put, List.setIfInBounds_toArray, List.set_cons_zero, List.set_cons_succ, i64_w, i32_w]
                  rfl
                 refine last_ (i := 9) (N := none) #[true, true, true, true, true, true, true, true, true, true] rfl rfl (one_of HT_.out (by kernel_rfl)) (by decide) (fun K hK => ?_)
                 have hs75 : w73.cell? ⟨gb260, 1, none⟩ = some (u261001) := (blk_cell BK260.out 1).trans rfl
                 have hfs75 := blk_frozen BK260.out 1
                 have hns75_0 := NB241_260.out
                 have hns75_1 := NB242_260.out
                 have hns75_2 := NB243_260.out
                 have hms75_0 := NB260_241.out
                 have hms75_1 := NB260_242.out
                 have hms75_2 := NB260_243.out
                 refine skip_ (w1 := ?_) (by rfl) rfl ?_ ?_
                 rotate_left
                 ·
                  go_simp
                  rfl
                 refine hK.out _ _ ?_
                 clear hK K
                 refine done_ (done_of HT_.out (by kernel_rfl)) ?_
                 try go_wp2
                 go_roundg k2
                 case measure => have := HJ2.out; have := HK2.out; omega
                 case rel => exact ⟨(wrap64 (x50_2 + 1)), (y265), (.slice Ao74 y265.length co74), (by first | rfl | (simp; done) | (simp [*]; done)), H', ⟨by have := HJ2.out; have := HK2.out; omega⟩, ⟨by refine NU ?_; exact Kd.N_mono (Kd.N_far (p := ⟨gb260, 1, none⟩) (Kd.N_mono HO_6.out (fun k_ hk => (⟨hk, hk.1.2.2.2.2.2⟩ : _ ∧ k_ ≠ gb260))) (fun _ hk => hk.2) (.slice Ao74 y265.length co74)) (fun _ hk => ⟨hk.1.1.1, ⟨hk.1.1.2.1, ⟨hk.1.2, ⟨hk.1.1.2.2.1, ⟨hk.1.1.2.2.2.1, ⟨hk.1.1.2.2.2.2.1, hk.1.1.2.2.2.2.2⟩⟩⟩⟩⟩⟩)⟩, ⟨by refine VU ?_; exact Kd.V_mono (Kd.V_far (p := ⟨gb260, 1, none⟩) (Kd.V_mono HO_242000.out (fun k_ hk => (⟨hk, hk.1.2.2.2.2.2.2⟩ : _ ∧ k_ ≠ gb260))) (fun _ hk => hk.2) (.slice Ao74 y265.length co74)) (fun _ hk => ⟨hk.1.1.1, ⟨hk.1.1.2.1, ⟨hk.1.1.2.2.1, ⟨hk.1.2, ⟨hk.1.1.2.2.2.1, ⟨hk.1.1.2.2.2.2.1, ⟨hk.1.1.2.2.2.2.2.1, hk.1.1.2.2.2.2.2.2⟩⟩⟩⟩⟩⟩⟩)⟩, ⟨by refine VU ?_; exact Kd.V_mono (Kd.V_far (p := ⟨gb260, 1, none⟩) (Kd.V_mono HO_243000.out (fun k_ hk => (⟨hk, hk.1.2.2.2.2.2.2⟩ : _ ∧ k_ ≠ gb260))) (fun _ hk => hk.2) (.slice Ao74 y265.length co74)) (fun _ hk => ⟨hk.1.1.1, ⟨hk.1.1.2.1, ⟨hk.1.1.2.2.1, ⟨hk.1.2, ⟨hk.1.1.2.2.2.1, ⟨hk.1.1.2.2.2.2.1, ⟨hk.1.1.2.2.2.2.2.1, hk.1.1.2.2.2.2.2.2⟩⟩⟩⟩⟩⟩⟩)⟩, ⟨by refine RU ?_; exact Kd.R_mono (Kd.R_far (p := ⟨gb260, 1, none⟩) (Kd.R_types HO_261000.out BK260.out (by decide)) (fun _ hk => hk.2) (.slice Ao74 y265.length co74)) (fun _ hk => ⟨hk.1.1, hk.1.2⟩)⟩, ⟨by refine RU ?_; exact Kd.R_mono (Kd.R_far (p := ⟨gb260, 1, none⟩) (Kd.R_types HO267.out BK260.out (by decide)) (fun _ hk => hk.2) (.slice Ao74 y265.length co74)) (fun _ hk => ⟨hk.1.1, hk.1.2⟩)⟩, ⟨by refine kU ?_; refine blk_far ?_ NB241_260.out _; refine kU ?_; exact BK241.out⟩, ⟨by refine kU ?_; refine blk_far ?_ NB242_260.out _; refine kU ?_; exact BK242.out⟩, ⟨by refine kU ?_; refine blk_far ?_ NB243_260.out _; refine kU ?_; exact BK243.out⟩, ⟨by refine kU ?_; refine blk_put (cs := #[.slice Ao56 t257.length co56, u261001]) ?_ 1 _ rfl; refine kU ?_; exact BK260.out⟩, ⟨by exact bS4 HB.out GE241.out GE242.out GE243.out GE260.out⟩⟩
                ·
                 rw [if_neg c70] at H
                 exact absurd H (by simp)
               ·
                rw [if_neg c69] at H
                exact absurd H (by simp)
              ·
               rw [if_neg c68] at H
               exact absurd H (by simp)
             ·
              replace c66 := Bool.eq_false_iff.mpr c66
              subst c66
              have H1 : (some (([] : List Int), ([] : List Int), 5)) = some (r1, r2, r3) := by rw [if_neg (show ¬ (false = true) by decide)] at H; exact H
              clear H
              have H := H1
              clear H1
              simp only [Option.some.injEq, Prod.mk.injEq] at H
              obtain ⟨rfl, rfl, rfl⟩ := H
              have p262 : 0 ≤ (x50_2 : Int) := of_decide_eq_true (by first | (with_reducible assumption) | assumption)
              have q262 : x50_2 < (l0_1.length : Int) := of_decide_eq_true (by first | (with_reducible assumption) | assumption)
              obtain ⟨ad262, e262, hx262_0⟩ := Kd.at_int HR0_1.out x50_2 p262 q262
              cases e262
              replace hx262_0 := (HB.out.cell (World.block_lt_of_cell? w _ hx262_0)).trans hx262_0
              replace p262 := eq_true p262
              replace q262 := eq_true q262
              obtain ⟨Ao76, co76, eo76⟩ := Kd.N_slice HO_6.out
              subst eo76
              go_wp2_with (first | ((with_reducible refine gate_callee (f := 30) rfl ?_); refine goesL_ (some 64) rfl rfl Try.func30 (by kernel_rfl) rfl #[.int .i64 (wrap64 ((rd l0_1 x50_2) + (t246.length : Int))), .int .i64 0, .int .i64 (wrap64 ((t246.length : Int) - 1))] rfl lU ?_; (with_reducible refine (impl_within.calls (wrap64 ((rd l0_1 x50_2) + (t246.length : Int))) 0 (wrap64 ((t246.length : Int) - 1)) false _ A65.out).mono ?_); rintro e w' ⟨rfl, ⟨nd, rfl⟩⟩; refine ⟨_, rfl, ?_⟩; (try (rw [drewN_self wr]; generalize hq_ : World.drewN wr _ = wr; have n0_ : Aside0 (Kd.V (Kd.int .i64) 3 wr w.heap.size (fun k_ => ((P0_0_ k_ ∨ P1_0_ k_) ∨ w.heap.size ≤ k_) ∧ some k_ ≠ (.slice Ao56 t257.length co56 : Value).ownBlock ∧ some k_ ≠ (u261001 : Value).ownBlock ∧ some k_ ≠ (.slice Ao76 t246.length co76 : Value).ownBlock ∧ k_ ≠ gb241 ∧ k_ ≠ gb242 ∧ k_ ≠ gb243 ∧ k_ ≠ gb260) (.slice A0_0 l0_0.length c0_0) l0_0) := ⟨by rw [← hq_]; exact (by refine VU ?_; exact Kd.V_mono HO_242000.out (fun _ hk => ⟨hk.1, ⟨hk.2.2.1, ⟨hk.2.2.2.1, ⟨hk.2.1, ⟨hk.2.2.2.2.1, ⟨hk.2.2.2.2.2.1, ⟨hk.2.2.2.2.2.2.1, hk.2.2.2.2.2.2.2⟩⟩⟩⟩⟩⟩⟩))⟩; have n1_ : Aside0 (Kd.V (Kd.int .i64) 3 wr w.heap.size (fun k_ => ((P0_0_ k_ ∨ P1_0_ k_) ∨ w.heap.size ≤ k_) ∧ some k_ ≠ (.slice Ao56 t257.length co56 : Value).ownBlock ∧ some k_ ≠ (u261001 : Value).ownBlock ∧ some k_ ≠ (.slice Ao76 t246.length co76 : Value).ownBlock ∧ k_ ≠ gb241 ∧ k_ ≠ gb242 ∧ k_ ≠ gb243 ∧ k_ ≠ gb260) (.slice A1_0 l1_0.length c1_0) l1_0) := ⟨by rw [← hq_]; exact (by refine VU ?_; exact Kd.V_mono HO_243000.out (fun _ hk => ⟨hk.1, ⟨hk.2.2.1, ⟨hk.2.2.2.1, ⟨hk.2.1, ⟨hk.2.2.2.2.1, ⟨hk.2.2.2.2.2.1, ⟨hk.2.2.2.2.2.2.1, hk.2.2.2.2.2.2.2⟩⟩⟩⟩⟩⟩⟩))⟩; have n2_ : Aside0 (Kd.R (Kd.int .i64) 3 wr w.heap.size (fun k_ => (w.heap.size ≤ k_) ∧ some k_ ≠ (u261001 : Value).ownBlock) (.slice Ao56 t257.length co56) t257) := ⟨by rw [← hq_]; exact (RU HO_261000.out)⟩; have n3_ : Aside0 (Kd.R (Kd.int .i64) 3 wr w.heap.size (fun k_ => (w.heap.size ≤ k_) ∧ some k_ ≠ (.slice Ao56 t257.length co56 : Value).ownBlock) u261001 x261001_2) := ⟨by rw [← hq_]; exact (RU HO_261001.out)⟩; have n4_ : Aside0 (Kd.N k28 28 wr w.heap.size (fun k_ => ((P0_0_ k_ ∨ P1_0_ k_) ∨ w.heap.size ≤ k_) ∧ some k_ ≠ (.slice Ao56 t257.length co56 : Value).ownBlock ∧ some k_ ≠ (u261001 : Value).ownBlock ∧ k_ ≠ gb241 ∧ k_ ≠ gb242 ∧ k_ ≠ gb243 ∧ k_ ≠ gb260) (.slice Ao76 t246.length co76) t246) := ⟨by rw [← hq_]; exact (NU HO_6.out)⟩; have n5_ : Aside0 (wr.heap[gb241]? = some (.cells #[.slice A0_0 l0_0.length c0_0, .slice (some ad262) l0_1.length c0_1] 28 (0, 0))) := ⟨by rw [← hq_]; exact (kU BK241.out)⟩; have n6_ : Aside0 (wr.heap[gb242]? = some (.cells #[.slice A1_0 l1_0.length c1_0, .slice A1_1 l1_1.length c1_1] 28 (0, 0))) := ⟨by rw [← hq_]; exact (kU BK242.out)⟩; have n7_ : Aside0 (wr.heap[gb243]? = some (.cells #[.slice none 0 0, .slice none 0 0] 28 (0, 0))) := ⟨by rw [← hq_]; exact (kU BK243.out)⟩; have n8_ : Aside0 (wr.heap[gb260]? = some (.cells #[.slice Ao56 t257.length co56, u261001] 28 (0, 0))) := ⟨by rw [← hq_]; exact (kU BK260.out)⟩; have n9_ : Aside0 (Below w.heap.size w wr) := ⟨by rw [← hq_]; exact (bS4 HB.out GE241.out GE242.out GE243.out GE260.out)⟩; clear HO_242000 HO_243000 HO_261000 HO_261001 HO_6 BK241 BK242 BK243 BK260 HB hq_; have HO_242000 := n0_; have HO_243000 := n1_; have HO_261000 := n2_; have HO_261001 := n3_; have HO_6 := n4_; have BK241 := n5_; have BK242 := n6_; have BK243 := n7_; have BK260 := n8_; have HB := n9_; clear n0_ n1_ n2_ n3_ n4_ n5_ n6_ n7_ n8_ n9_)); have hnb77 := NB243_241.out; have hnc77 := NB241_243.out; have hnb78 := NB243_242.out; have hnc78 := NB242_243.out; have hnb79 := NB243_260.out; have hnc79 := NB260_243.out; have hcz80_0 : wr.cell? ⟨gb243, 0, none⟩ = some (.slice none 0 0) := (blk_cell BK243.out 0).trans rfl; have hcz80_1 : wr.cell? ⟨gb243, 1, none⟩ = some (.slice none 0 0) := (blk_cell BK243.out 1).trans rfl; have hfz80_0 := blk_frozen BK243.out 0; have hfz80_1 := blk_frozen BK243.out 1))
              refine bodyPost_ret (results_ct rfl _ _ gb243 28 #[.slice none 0 0, .slice none 0 0] (0, 0) _ rfl (by refine kU ?_; refine blk_put (cs := #[.slice none 0 0, .slice none 0 0]) ?_ 1 _ rfl; refine kU ?_; refine blk_put (cs := #[.slice none 0 0, .slice none 0 0]) ?_ 0 _ rfl; refine kU ?_; exact BK243.out) Try.underlying28 rfl (by kernel_rfl)) rfl ?_
              exact ⟨_, _, by first | rfl | (simp [errW_none, errW_some] <;> rfl) | (simp [*, errW_none, errW_some] <;> rfl), by first | exact Kd.R_nil _ _ _ _ _ | exact Kd.N_nil _ _ _ _ _ | exact Kd.V_nil _ _ _ _ _ | exact Kd.Q_nil _ _ _ _ _ | exact Kd.S_nil _ _ _ _ _, by first | exact Kd.R_nil _ _ _ _ _ | exact Kd.N_nil _ _ _ _ _ | exact Kd.V_nil _ _ _ _ _ | exact Kd.Q_nil _ _ _ _ _ | exact Kd.S_nil _ _ _ _ _, by exact bS4 HB.out GE241.out GE242.out GE243.out GE260.out⟩
            ·
             rw [if_neg c64] at H
             have c64b0 : decide ((rd l0_1 x50_2) < 0) = false := decide_eq_false c64
             clear c64
             replace H := Option.bind_eq_some_iff.mp H
             obtain ⟨t268, A810, H⟩ := H
             replace H : (if t268 = true then (if 0 ≤ (rd l0_1 x50_2) then (if (rd l0_1 x50_2) < (t246.length : Int) then (if x261001_2.length + ((rd_T28 t246 (rd l0_1 x50_2)).f1).length < 17592186044416 then (impl_Pick.l0 k2 t246 l0_1 (l0_1.length : Int) (wrap64 (x50_2 + 1)) t257 (x261001_2 ++ ((rd_T28 t246 (rd l0_1 x50_2)).f1))) else (none)) else (none)) else (none)) else (some (([] : List Int), ([] : List Int), 5))) = some (r1, r2, r3) := H
             have A81 := Aside0.mk A810
             clear A810
             by_cases c82 : t268 = true
             ·
              subst c82
              have H1 : (if 0 ≤ (rd l0_1 x50_2) then (if (rd l0_1 x50_2) < (t246.length : Int) then (if x261001_2.length + ((rd_T28 t246 (rd l0_1 x50_2)).f1).length < 17592186044416 then (impl_Pick.l0 k2 t246 l0_1 (l0_1.length : Int) (wrap64 (x50_2 + 1)) t257 (x261001_2 ++ ((rd_T28 t246 (rd l0_1 x50_2)).f1))) else (none)) else (none)) else (none)) = some (r1, r2, r3) := by rw [if_pos rfl] at H; exact H
              clear H
              have H := H1
              clear H1
              by_cases c83 : 0 ≤ (rd l0_1 x50_2)
              ·
               rw [if_pos c83] at H
               have c83b0 : decide (0 ≤ (rd l0_1 x50_2)) = true := decide_eq_true c83
               clear c83
               by_cases c84 : (rd l0_1 x50_2) < (t246.length : Int)
               ·
                rw [if_pos c84] at H
                have c84b0 : decide ((rd l0_1 x50_2) < (t246.length : Int)) = true := decide_eq_true c84
                clear c84
                by_cases c85 : x261001_2.length + ((rd_T28 t246 (rd l0_1 x50_2)).f1).length < 17592186044416
                ·
                 rw [if_pos c85] at H
                 have LMc85 := Aside0.mk c85
                 clear c85
                 obtain ⟨y270, hy270⟩ : ∃ y_ : List Int, y_ = (x261001_2 ++ ((rd_T28 t246 (rd l0_1 x50_2)).f1)) := ⟨_, rfl⟩
                 replace H : (impl_Pick.l0 k2 t246 l0_1 (l0_1.length : Int) (wrap64 (x50_2 + 1)) t257 y270) = some (r1, r2, r3) := by first | (rw [hy270]; with_reducible exact H) | (have H2_ := (Option.bind_some _ _).symm.trans H; rw [hy270]; with_reducible exact H2_) | (have H2_ := (Option.bind_some _ _).symm.trans H; with_reducible exact H2_) | with_reducible exact H | (rw [hy270]; exact H) | exact H
                 have Ny270 := Aside0.mk hy270
                 clear hy270
                 have H' := Aside0.mk H
                 clear H
                 have p262 : 0 ≤ (x50_2 : Int) := of_decide_eq_true (by first | (with_reducible assumption) | assumption)
                 have q262 : x50_2 < (l0_1.length : Int) := of_decide_eq_true (by first | (with_reducible assumption) | assumption)
                 obtain ⟨ad262, e262, hx262_0⟩ := Kd.at_int HR0_1.out x50_2 p262 q262
                 cases e262
                 replace hx262_0 := (HB.out.cell (World.block_lt_of_cell? w _ hx262_0)).trans hx262_0
                 replace p262 := eq_true p262
                 replace q262 := eq_true q262
                 obtain ⟨Ao86, co86, eo86⟩ := Kd.N_slice HO_6.out
                 subst eo86
                 try go_wp2_with (first | ((with_reducible refine gate_callee (f := 30) rfl ?_); refine goesL_ (some 64) rfl rfl Try.func30 (by kernel_rfl) rfl #[.int .i64 (rd l0_1 x50_2), .int .i64 0, .int .i64 (wrap64 ((t246.length : Int) - 1))] rfl lU ?_; (with_reducible refine (impl_within.calls (rd l0_1 x50_2) 0 (wrap64 ((t246.length : Int) - 1)) true _ A81.out).mono ?_); rintro e w' ⟨rfl, ⟨nd, rfl⟩⟩; refine ⟨_, rfl, ?_⟩; (try (rw [drewN_self wr]; generalize hq_ : World.drewN wr _ = wr; have n0_ : Aside0 (Kd.V (Kd.int .i64) 3 wr w.heap.size (fun k_ => ((P0_0_ k_ ∨ P1_0_ k_) ∨ w.heap.size ≤ k_) ∧ some k_ ≠ (.slice Ao56 t257.length co56 : Value).ownBlock ∧ some k_ ≠ (u261001 : Value).ownBlock ∧ some k_ ≠ (.slice Ao86 t246.length co86 : Value).ownBlock ∧ k_ ≠ gb241 ∧ k_ ≠ gb242 ∧ k_ ≠ gb243 ∧ k_ ≠ gb260) (.slice A0_0 l0_0.length c0_0) l0_0) := ⟨by rw [← hq_]; exact (by refine VU ?_; exact Kd.V_mono HO_242000.out (fun _ hk => ⟨hk.1, ⟨hk.2.2.1, ⟨hk.2.2.2.1, ⟨hk.2.1, ⟨hk.2.2.2.2.1, ⟨hk.2.2.2.2.2.1, ⟨hk.2.2.2.2.2.2.1, hk.2.2.2.2.2.2.2⟩⟩⟩⟩⟩⟩⟩))⟩; have n1_ : Aside0 (Kd.V (Kd.int .i64) 3 wr w.heap.size (fun k_ => ((P0_0_ k_ ∨ P1_0_ k_) ∨ w.heap.size ≤ k_) ∧ some k_ ≠ (.slice Ao56 t257.length co56 : Value).ownBlock ∧ some k_ ≠ (u261001 : Value).ownBlock ∧ some k_ ≠ (.slice Ao86 t246.length co86 : Value).ownBlock ∧ k_ ≠ gb241 ∧ k_ ≠ gb242 ∧ k_ ≠ gb243 ∧ k_ ≠ gb260) (.slice A1_0 l1_0.length c1_0) l1_0) := ⟨by rw [← hq_]; exact (by refine VU ?_; exact Kd.V_mono HO_243000.out (fun _ hk => ⟨hk.1, ⟨hk.2.2.1, ⟨hk.2.2.2.1, ⟨hk.2.1, ⟨hk.2.2.2.2.1, ⟨hk.2.2.2.2.2.1, ⟨hk.2.2.2.2.2.2.1, hk.2.2.2.2.2.2.2⟩⟩⟩⟩⟩⟩⟩))⟩; have n2_ : Aside0 (Kd.R (Kd.int .i64) 3 wr w.heap.size (fun k_ => (w.heap.size ≤ k_) ∧ some k_ ≠ (u261001 : Value).ownBlock) (.slice Ao56 t257.length co56) t257) := ⟨by rw [← hq_]; exact (RU HO_261000.out)⟩; have n3_ : Aside0 (Kd.R (Kd.int .i64) 3 wr w.heap.size (fun k_ => (w.heap.size ≤ k_) ∧ some k_ ≠ (.slice Ao56 t257.length co56 : Value).ownBlock) u261001 x261001_2) := ⟨by rw [← hq_]; exact (RU HO_261001.out)⟩; have n4_ : Aside0 (Kd.N k28 28 wr w.heap.size (fun k_ => ((P0_0_ k_ ∨ P1_0_ k_) ∨ w.heap.size ≤ k_) ∧ some k_ ≠ (.slice Ao56 t257.length co56 : Value).ownBlock ∧ some k_ ≠ (u261001 : Value).ownBlock ∧ k_ ≠ gb241 ∧ k_ ≠ gb242 ∧ k_ ≠ gb243 ∧ k_ ≠ gb260) (.slice Ao86 t246.length co86) t246) := ⟨by rw [← hq_]; exact (NU HO_6.out)⟩; have n5_ : Aside0 (wr.heap[gb241]? = some (.cells #[.slice A0_0 l0_0.length c0_0, .slice (some ad262) l0_1.length c0_1] 28 (0, 0))) := ⟨by rw [← hq_]; exact (kU BK241.out)⟩; have n6_ : Aside0 (wr.heap[gb242]? = some (.cells #[.slice A1_0 l1_0.length c1_0, .slice A1_1 l1_1.length c1_1] 28 (0, 0))) := ⟨by rw [← hq_]; exact (kU BK242.out)⟩; have n7_ : Aside0 (wr.heap[gb243]? = some (.cells #[.slice none 0 0, .slice none 0 0] 28 (0, 0))) := ⟨by rw [← hq_]; exact (kU BK243.out)⟩; have n8_ : Aside0 (wr.heap[gb260]? = some (.cells #[.slice Ao56 t257.length co56, u261001] 28 (0, 0))) := ⟨by rw [← hq_]; exact (kU BK260.out)⟩; have n9_ : Aside0 (Below w.heap.size w wr) := ⟨by rw [← hq_]; exact (bS4 HB.out GE241.out GE242.out GE243.out GE260.out)⟩; clear HO_242000 HO_243000 HO_261000 HO_261001 HO_6 BK241 BK242 BK243 BK260 HB hq_; have HO_242000 := n0_; have HO_243000 := n1_; have HO_261000 := n2_; have HO_261001 := n3_; have HO_6 := n4_; have BK241 := n5_; have BK242 := n6_; have BK243 := n7_; have BK260 := n8_; have HB := n9_; clear n0_ n1_ n2_ n3_ n4_ n5_ n6_ n7_ n8_ n9_))))
                 replace HO_6 := Aside0.mk (Kd.N_drew HO_6.out)
                 replace HO_242000 := Aside0.mk (Kd.V_drew HO_242000.out)
                 replace HO_243000 := Aside0.mk (Kd.V_drew HO_243000.out)
                 replace HO_261000 := Aside0.mk (Kd.R_drew HO_261000.out)
                 replace HO_261001 := Aside0.mk (Kd.R_drew HO_261001.out)
                 replace BK241 := Aside0.mk (blk_drew BK241.out)
                 replace BK242 := Aside0.mk (blk_drew BK242.out)
                 replace BK243 := Aside0.mk (blk_drew BK243.out)
                 replace BK260 := Aside0.mk (blk_drew BK260.out)
                 replace HB := Aside0.mk (below_drew1 HB.out)
                 have p269 : 0 ≤ ((rd l0_1 x50_2) : Int) := of_decide_eq_true (by first | (with_reducible assumption) | assumption)
                 have q269 : (rd l0_1 x50_2) < (t246.length : Int) := of_decide_eq_true (by first | (with_reducible assumption) | assumption)
                 obtain ⟨ad269, A269_0, c269_0, A269_1, c269_1, e269, hx269_0, hx269_1, hl269_0, hi269_0, hl269_1, hi269_1⟩ := at_T28 (Kd.N_reads' HO_6.out).2.2 (rd l0_1 x50_2) p269 q269
                 cases e269
                 obtain ⟨ce269, hce269, hMe269, hcc269⟩ := Kd.N_get HO_6.out z28 (rd l0_1 x50_2) p269 (by first | exact q269 | exact of_decide_eq_true (by first | (with_reducible assumption) | assumption) | (have e_ := (Kd.N_reads' HO_6.out).1; omega))
                 obtain ⟨ua269_0, uc269_0, ua269_1, uc269_1, rfl, ul269_0, ge269_0, ul269_1, ge269_1⟩ := k28_openF hMe269
                 have hv269_0 := hcc269 0 _ rfl
                 rw [Nat.add_zero] at hv269_0
                 replace hv269_0 := Option.some.inj (hv269_0.symm.trans hx269_0)
                 injection hv269_0 with hva_ hvn_ hvc_
                 rw [hva_] at ge269_0
                 rw [hvc_] at ul269_0
                 have HL269_0 := Aside0.mk (show Kd.V (Kd.int .i64) 3 _ w.heap.size _ _ ((rd_T28 t246 (rd l0_1 x50_2)).f0) from Kd.V_mk ul269_0 ge269_0)
                 clear hva_ hvn_ hvc_ ge269_0 ul269_0
                 have hv269_1 := hcc269 1 _ rfl
                 rw [add_field _ _ 1 (by omega)] at hv269_1
                 replace hv269_1 := Option.some.inj (hv269_1.symm.trans hx269_1)
                 injection hv269_1 with hva_ hvn_ hvc_
                 rw [hva_] at ge269_1
                 rw [hvc_] at ul269_1
                 have HL269_1 := Aside0.mk (show Kd.V (Kd.int .i64) 3 _ w.heap.size _ _ ((rd_T28 t246 (rd l0_1 x50_2)).f1) from Kd.V_mk ul269_1 ge269_1)
                 clear hva_ hvn_ hvc_ ge269_1 ul269_1
                 clear hcc269 hce269
                 have HR269_0 := Aside0.mk hi269_0
                 have HC269_0 := Aside0.mk hl269_0
                 clear hi269_0 hl269_0
                 have HR269_1 := Aside0.mk hi269_1
                 have HC269_1 := Aside0.mk hl269_1
                 clear hi269_1 hl269_1
                 replace p269 := eq_true p269
                 replace q269 := eq_true q269
                 refine start_ (n := 10) (S := fun w' => w'.cell? ⟨gb260, 0, none⟩ = some (.slice Ao56 t257.length co56) ∧ w'.cell? ⟨gb260, 1, none⟩ = some (u261001) ∧ w'.cell? (ad269.add (((rd l0_1 x50_2)).toNat * 2)) = some (.slice A269_0 ((rd_T28 t246 (rd l0_1 x50_2)).f0).length c269_0) ∧ w'.cell? ⟨(ad269.add (((rd l0_1 x50_2)).toNat * 2)).block, (ad269.add (((rd l0_1 x50_2)).toNat * 2)).off + 1, none⟩ = some (.slice A269_1 ((rd_T28 t246 (rd l0_1 x50_2)).f1).length c269_1)) (ds := [7, 9]) #[false, false, false, false, false, false, false, false, false, false] (by kernel_rfl) rfl rfl ⟨(blk_cell BK260.out 0).trans rfl, (blk_cell BK260.out 1).trans rfl, hx269_0, hx269_1⟩ (fun hHeld => ?_); refine with_tabW impl_Pick.tab14 impl_Pick.bits14 (fun HT_ HW_ => ?_)
                 generalize wr.drew = w87 at HO_6 HO_242000 HO_243000 HO_261000 HO_261001 BK241 BK242 BK243 BK260 HB HL269_0 HL269_1 HR269_0 HR269_1 hx269_0 hx269_1 hHeld ⊢
                 refine pure_ (i := 0) (N := some 67) (v := ?_) (a' := ?_) #[true, false, false, false, false, false, false, false, false, false] rfl rfl (any_of HT_.out (by kernel_rfl)) (fun _ _ _ h => h) (Or.inl ⟨by rfl, ?_⟩) ?_ ?_
                 rotate_left
                 ·
                  intro w'
                  go_simp
                  with_reducible rfl
                 rotate_left
                 ·
                  simp only [Act.put, List.setIfInBounds_toArray, List.set_cons_zero, List.set_cons_succ, i64_w, i32_w]
                  rfl
                 refine pure_ (i := 2) (N := some 69) (v := ?_) (a' := ?_) #[true, false, true, false, false, false, false, false, false, false] rfl rfl (any_of HT_.out (by kernel_rfl)) (fun _ _ _ h => h) (Or.inl ⟨by rfl, ?_⟩) ?_ ?_
                 rotate_left
                 ·
                  intro w'
                  go_simp
                  with_reducible rfl
                 rotate_left
                 ·
                  simp only [Act.put, List.setIfInBounds_toArray, List.set_cons_zero, List.set_cons_succ, i64_w, i32_w]
                  rfl
                 refine pure_ (i := 3) (N := some 70) (v := ?_) (a' := ?_) #[true, false, true, true, false, false, false, false, false, false] rfl rfl (any_of HT_.out (by kernel_rfl)) (fun _ _ _ h => h) (Or.inl ⟨by rfl, ?_⟩) ?_ ?_
                 rotate_left
                 ·
                  intro w'
                  go_simp
                  with_reducible rfl
                 rotate_left
                 ·
                  simp only [Act.put, List.setIfInBounds_toArray, List.set_cons_zero, List.set_cons_succ, i64_w, i32_w]
                  rfl
                 refine pure_ (i := 4) (N := some 71) (v := ?_) (a' := ?_) #[true, false, true, true, true, false, false, false, false, false] rfl rfl (any_of HT_.out (by kernel_rfl)) (fun _ _ _ h => h) (Or.inl ⟨by rfl, ?_⟩) ?_ ?_
                 rotate_left
                 ·
                  intro w'
                  go_simp
                  with_reducible rfl
                 rotate_left
                 ·
                  simp only [Act.put, List.setIfInBounds_toArray, List.set_cons_zero, List.set_cons_succ, i64_w, i32_w]
                  rfl
                 refine pure_ (i := 5) (N := some 72) (v := ?_) (a' := ?_) #[true, false, true, true, true, true, false, false, false, false] rfl rfl (any_of HT_.out (by kernel_rfl)) (fun _ _ _ h => h) (Or.inl ⟨by rfl, ?_⟩) ?_ ?_
                 rotate_left
                 ·
                  intro w'
                  go_simp
                  with_reducible rfl
                 rotate_left
                 ·
                  simp only [Act.put, List.setIfInBounds_toArray, List.set_cons_zero, List.set_cons_succ, i64_w, i32_w]
                  rfl
                 refine take_ (i := 1) (N := some 68) (v := ?_) (a' := ?_) #[true, true, true, true, true, true, false, false, false, false] rfl rfl (take_ofW HT_.out HW_.out (by kernel_rfl)) (fun _ _ _ h => h) (Or.inl ⟨by rfl, ?_⟩) hHeld ?_ ?_
                 rotate_left
                 ·
                  rintro w' ⟨s0, s1, s2, s3⟩
                  go_simp
                  with_reducible rfl
                 rotate_left
                 ·
                  simp only [Act.put, List.setIfInBounds_toArray, List.set_cons_zero, List.set_cons_succ, i64_w, i32_w]
                  rfl
                 refine take_ (i := 6) (N := some 73) (v := ?_) (a' := ?_) #[true, true, true, true, true, true, true, false, false, false] rfl rfl (take_ofW HT_.out HW_.out (by kernel_rfl)) (fun _ _ _ h => h) (Or.inl ⟨by rfl, ?_⟩) hHeld ?_ ?_
                 rotate_left
                 ·
                  rintro w' ⟨s0, s1, s2, s3⟩
                  go_simp
                  with_reducible rfl
                 rotate_left
                 ·
                  simp only [Act.put, List.setIfInBounds_toArray, List.set_cons_zero, List.set_cons_succ, i64_w, i32_w]
                  rfl
                 refine last_ (i := 7) (N := some 74) #[true, true, true, true, true, true, true, true, false, false] rfl rfl (one_of HT_.out (by kernel_rfl)) (by decide) (fun K hK => ?_)
                 refine Kd.R_append_rows_step (Kd.int .i64) (w0 := w) w.heap.size (by rfl) (.tmp 68) (.tmp 73) 22 3 (.int .i64 0) 8 rfl Try.underlying22 info3 rfl (by decide) (by omega) u261001 x261001_2 ((rd_T28 t246 (rd l0_1 x50_2)).f1) _ _ _ (fun k_ => (w.heap.size ≤ k_) ∧ some k_ ≠ (.slice Ao56 t257.length co56 : Value).ownBlock) (fun _ => False) rfl rfl ?aO ?aR (fun _ _ h => h) (fun _ h => h.elim) ?aF ?aB ?aS ?aL ?_
                 (case aR => repeat (first | exact (by repeat (first | (with_reducible exact HR269_1.out) | (with_reducible refine Kd.C_alloc ?_ _) | (with_reducible refine Kd.C_drewN ?_ _) | (with_reducible refine Kd.C_drew ?_) | exact HR269_1.out)) | (with_reducible refine Kd.C_alloc ?_ _) | (with_reducible refine Kd.C_drewN ?_ _) | (with_reducible refine Kd.C_drew ?_)))
                 (case aB => exact (bS4 HB.out GE241.out GE242.out GE243.out GE260.out))
                 (case aF => exact (fun k_ hk => ⟨(Nat.le_trans (below_size (bS4 HB.out GE241.out GE242.out GE243.out GE260.out)) hk), Kd.fresh' (Kd.R_lt (RU HO_261000.out)) k_ hk⟩))
                 (case aO => exact (RU HO_261001.out))
                 (case aS => exact (below_size (bS4 HB.out GE241.out GE242.out GE243.out GE260.out)))
                 (case aL => have := LMc85.out; omega)
                 intro v271 w88 ho hb hg hat
                 rw [← Ny270.out] at ho
                 have n0_ := Aside0.mk (Kd.N_afterv (ok := (fun k_ => ((P0_0_ k_ ∨ P1_0_ k_) ∨ w.heap.size ≤ k_) ∧ some k_ ≠ (.slice Ao56 t257.length co56 : Value).ownBlock ∧ k_ ≠ gb241 ∧ k_ ≠ gb242 ∧ k_ ≠ gb243 ∧ k_ ≠ gb260)) (by refine NU ?_; exact Kd.N_mono HO_6.out (fun _ hk => ⟨⟨hk.1, ⟨hk.2.1, ⟨hk.2.2.2.1, ⟨hk.2.2.2.2.1, ⟨hk.2.2.2.2.2.1, hk.2.2.2.2.2.2⟩⟩⟩⟩⟩, hk.2.2.1⟩)) hg hat)
                 have n1_ := Aside0.mk (Kd.V_afterv (ok := (fun k_ => ((P0_0_ k_ ∨ P1_0_ k_) ∨ w.heap.size ≤ k_) ∧ some k_ ≠ (.slice (some ad269) t246.length co86 : Value).ownBlock ∧ some k_ ≠ (.slice Ao56 t257.length co56 : Value).ownBlock ∧ k_ ≠ gb241 ∧ k_ ≠ gb242 ∧ k_ ≠ gb243 ∧ k_ ≠ gb260)) (by refine VU ?_; exact Kd.V_mono HO_242000.out (fun _ hk => ⟨⟨hk.1, ⟨hk.2.2.2.1, ⟨hk.2.1, ⟨hk.2.2.2.2.1, ⟨hk.2.2.2.2.2.1, ⟨hk.2.2.2.2.2.2.1, hk.2.2.2.2.2.2.2⟩⟩⟩⟩⟩⟩, hk.2.2.1⟩)) hg hat)
                 have n2_ := Aside0.mk (Kd.V_afterv (ok := (fun k_ => ((P0_0_ k_ ∨ P1_0_ k_) ∨ w.heap.size ≤ k_) ∧ some k_ ≠ (.slice (some ad269) t246.length co86 : Value).ownBlock ∧ some k_ ≠ (.slice Ao56 t257.length co56 : Value).ownBlock ∧ k_ ≠ gb241 ∧ k_ ≠ gb242 ∧ k_ ≠ gb243 ∧ k_ ≠ gb260)) (by refine VU ?_; exact Kd.V_mono HO_243000.out (fun _ hk => ⟨⟨hk.1, ⟨hk.2.2.2.1, ⟨hk.2.1, ⟨hk.2.2.2.2.1, ⟨hk.2.2.2.2.2.1, ⟨hk.2.2.2.2.2.2.1, hk.2.2.2.2.2.2.2⟩⟩⟩⟩⟩⟩, hk.2.2.1⟩)) hg hat)
                 have n3_ := Aside0.mk (Kd.R_after (ok := (fun k_ => (w.heap.size ≤ k_))) (RU HO_261000.out) hg hat)
                 have n4_ := Aside0.mk (blk_grown (g := gb241) (o := .cells #[.slice A0_0 l0_0.length c0_0, .slice (some ad262) l0_1.length c0_1] 28 (0, 0)) (kU BK241.out) hg (Kd.R_ne HO_261001.out BK241.out (by decide)))
                 have n5_ := Aside0.mk (blk_grown (g := gb242) (o := .cells #[.slice A1_0 l1_0.length c1_0, .slice A1_1 l1_1.length c1_1] 28 (0, 0)) (kU BK242.out) hg (Kd.R_ne HO_261001.out BK242.out (by decide)))
                 have n6_ := Aside0.mk (blk_grown (g := gb243) (o := .cells #[.slice none 0 0, .slice none 0 0] 28 (0, 0)) (kU BK243.out) hg (Kd.R_ne HO_261001.out BK243.out (by decide)))
                 have n7_ := Aside0.mk (blk_grown (g := gb260) (o := .cells #[.slice Ao56 t257.length co56, u261001] 28 (0, 0)) (kU BK260.out) hg (Kd.R_ne HO_261001.out BK260.out (by decide)))
                 have n8_ := Aside0.mk (Kd.V_afterv (ok := (fun k_ => ((P0_0_ k_ ∨ P1_0_ k_) ∨ w.heap.size ≤ k_) ∧ some k_ ≠ (.slice (some ad269) t246.length co86 : Value).ownBlock ∧ some k_ ≠ (.slice Ao56 t257.length co56 : Value).ownBlock ∧ k_ ≠ gb241 ∧ k_ ≠ gb242 ∧ k_ ≠ gb243 ∧ k_ ≠ gb260)) (by refine VU ?_; exact Kd.V_mono HL269_0.out (fun _ hk => ⟨⟨hk.1.1, ⟨hk.2, ⟨hk.1.2.1, ⟨hk.1.2.2.2.1, ⟨hk.1.2.2.2.2.1, ⟨hk.1.2.2.2.2.2.1, hk.1.2.2.2.2.2.2⟩⟩⟩⟩⟩⟩, hk.1.2.2.1⟩)) hg hat)
                 have n9_ := Aside0.mk (Kd.V_afterv (ok := (fun k_ => ((P0_0_ k_ ∨ P1_0_ k_) ∨ w.heap.size ≤ k_) ∧ some k_ ≠ (.slice (some ad269) t246.length co86 : Value).ownBlock ∧ some k_ ≠ (.slice Ao56 t257.length co56 : Value).ownBlock ∧ k_ ≠ gb241 ∧ k_ ≠ gb242 ∧ k_ ≠ gb243 ∧ k_ ≠ gb260)) (by refine VU ?_; exact Kd.V_mono HL269_1.out (fun _ hk => ⟨⟨hk.1.1, ⟨hk.2, ⟨hk.1.2.1, ⟨hk.1.2.2.2.1, ⟨hk.1.2.2.2.2.1, ⟨hk.1.2.2.2.2.2.1, hk.1.2.2.2.2.2.2⟩⟩⟩⟩⟩⟩, hk.1.2.2.1⟩)) hg hat)
                 have n10_ := Aside0.mk (hb)
                 have n11_ := Aside0.mk (ho)
                 clear HO_6 HO_242000 HO_243000 HO_261000 BK241 BK242 BK243 BK260 HL269_0 HL269_1 HB HO_261001
                 have HO_6 := n0_
                 have HO_242000 := n1_
                 have HO_243000 := n2_
                 have HO_261000 := n3_
                 have BK241 := n4_
                 have BK242 := n5_
                 have BK243 := n6_
                 have BK260 := n7_
                 have HL269_0 := n8_
                 have HL269_1 := n9_
                 have HB := n10_
                 have HO272 := n11_
                 clear n0_ n1_ n2_ n3_ n4_ n5_ n6_ n7_ n8_ n9_ n10_ n11_
                 clear ho hb hg hat
                 obtain ⟨Ao89, co89, eo89⟩ := Kd.R_slice HO272.out
                 (first | subst eo89 | (injection eo89 with f1_ f2_ f3_; have f4_ := f1_.symm; have f5_ := f3_.symm; clear f1_ f2_ f3_; subst f4_; subst f5_))
                 refine hK.out _ _ ?_
                 clear hK K
                 refine norm_ (a' := ?_) ?_ ?_
                 rotate_left
                 ·
                  show Act.put _ (some 74) _ = _
                  simp only [Act.put, List.setIfInBounds_toArray, List.set_cons_zero, List.set_cons_succ, i64_w, i32_w]
                  rfl
                 refine pure_ (i := 8) (N := some 75) (v := ?_) (a' := ?_) #[true, true, true, true, true, true, true, true, true, false] rfl rfl (any_of HT_.out (by kernel_rfl)) (fun _ _ _ h => h) (Or.inl ⟨by rfl, ?_⟩) ?_ ?_
                 rotate_left
                 ·
                  intro w'
                  go_simp
                  with_reducible rfl
                 rotate_left
                 ·
                  simp only [Act.put, List.setIfInBounds_toArray, List.set_cons_zero, List.set_cons_succ, i64_w, i32_w]
                  rfl
                 refine last_ (i := 9) (N := none) #[true, true, true, true, true, true, true, true, true, true] rfl rfl (one_of HT_.out (by kernel_rfl)) (by decide) (fun K hK => ?_)
                 have hs90 : w88.cell? ⟨gb260, 1, none⟩ = some (u261001) := (blk_cell BK260.out 1).trans rfl
                 have hfs90 := blk_frozen BK260.out 1
                 have hns90_0 := NB241_260.out
                 have hns90_1 := NB242_260.out
                 have hns90_2 := NB243_260.out
                 have hms90_0 := NB260_241.out
                 have hms90_1 := NB260_242.out
                 have hms90_2 := NB260_243.out
                 refine skip_ (w1 := ?_) (by rfl) rfl ?_ ?_
                 rotate_left
                 ·
                  go_simp
                  rfl
                 refine hK.out _ _ ?_
                 clear hK K
                 refine done_ (done_of HT_.out (by kernel_rfl)) ?_
                 try go_wp2
                 go_roundg k2
                 case measure => have := HJ2.out; have := HK2.out; omega
                 case rel => exact ⟨(wrap64 (x50_2 + 1)), (y270), (.slice Ao89 y270.length co89), (by first | rfl | (simp; done) | (simp [*]; done)), H', ⟨by have := HJ2.out; have := HK2.out; omega⟩, ⟨by refine NU ?_; exact Kd.N_mono (Kd.N_far (p := ⟨gb260, 1, none⟩) (Kd.N_mono HO_6.out (fun k_ hk => (⟨hk, hk.1.2.2.2.2.2⟩ : _ ∧ k_ ≠ gb260))) (fun _ hk => hk.2) (.slice Ao89 y270.length co89)) (fun _ hk => ⟨hk.1.1.1, ⟨hk.1.1.2.1, ⟨hk.1.2, ⟨hk.1.1.2.2.1, ⟨hk.1.1.2.2.2.1, ⟨hk.1.1.2.2.2.2.1, hk.1.1.2.2.2.2.2⟩⟩⟩⟩⟩⟩)⟩, ⟨by refine VU ?_; exact Kd.V_mono (Kd.V_far (p := ⟨gb260, 1, none⟩) (Kd.V_mono HO_242000.out (fun k_ hk => (⟨hk, hk.1.2.2.2.2.2.2⟩ : _ ∧ k_ ≠ gb260))) (fun _ hk => hk.2) (.slice Ao89 y270.length co89)) (fun _ hk => ⟨hk.1.1.1, ⟨hk.1.1.2.1, ⟨hk.1.1.2.2.1, ⟨hk.1.2, ⟨hk.1.1.2.2.2.1, ⟨hk.1.1.2.2.2.2.1, ⟨hk.1.1.2.2.2.2.2.1, hk.1.1.2.2.2.2.2.2⟩⟩⟩⟩⟩⟩⟩)⟩, ⟨by refine VU ?_; exact Kd.V_mono (Kd.V_far (p := ⟨gb260, 1, none⟩) (Kd.V_mono HO_243000.out (fun k_ hk => (⟨hk, hk.1.2.2.2.2.2.2⟩ : _ ∧ k_ ≠ gb260))) (fun _ hk => hk.2) (.slice Ao89 y270.length co89)) (fun _ hk => ⟨hk.1.1.1, ⟨hk.1.1.2.1, ⟨hk.1.1.2.2.1, ⟨hk.1.2, ⟨hk.1.1.2.2.2.1, ⟨hk.1.1.2.2.2.2.1, ⟨hk.1.1.2.2.2.2.2.1, hk.1.1.2.2.2.2.2.2⟩⟩⟩⟩⟩⟩⟩)⟩, ⟨by refine RU ?_; exact Kd.R_mono (Kd.R_far (p := ⟨gb260, 1, none⟩) (Kd.R_types HO_261000.out BK260.out (by decide)) (fun _ hk => hk.2) (.slice Ao89 y270.length co89)) (fun _ hk => ⟨hk.1.1, hk.1.2⟩)⟩, ⟨by refine RU ?_; exact Kd.R_mono (Kd.R_far (p := ⟨gb260, 1, none⟩) (Kd.R_types HO272.out BK260.out (by decide)) (fun _ hk => hk.2) (.slice Ao89 y270.length co89)) (fun _ hk => ⟨hk.1.1, hk.1.2⟩)⟩, ⟨by refine kU ?_; refine blk_far ?_ NB241_260.out _; refine kU ?_; exact BK241.out⟩, ⟨by refine kU ?_; refine blk_far ?_ NB242_260.out _; refine kU ?_; exact BK242.out⟩, ⟨by refine kU ?_; refine blk_far ?_ NB243_260.out _; refine kU ?_; exact BK243.out⟩, ⟨by refine kU ?_; refine blk_put (cs := #[.slice Ao56 t257.length co56, u261001]) ?_ 1 _ rfl; refine kU ?_; exact BK260.out⟩, ⟨by exact bS4 HB.out GE241.out GE242.out GE243.out GE260.out⟩⟩
                ·
                 rw [if_neg c85] at H
                 exact absurd H (by simp)
               ·
                rw [if_neg c84] at H
                exact absurd H (by simp)
              ·
               rw [if_neg c83] at H
               exact absurd H (by simp)
             ·
              replace c82 := Bool.eq_false_iff.mpr c82
              subst c82
              have H1 : (some (([] : List Int), ([] : List Int), 5)) = some (r1, r2, r3) := by rw [if_neg (show ¬ (false = true) by decide)] at H; exact H
              clear H
              have H := H1
              clear H1
              simp only [Option.some.injEq, Prod.mk.injEq] at H
              obtain ⟨rfl, rfl, rfl⟩ := H
              have p262 : 0 ≤ (x50_2 : Int) := of_decide_eq_true (by first | (with_reducible assumption) | assumption)
              have q262 : x50_2 < (l0_1.length : Int) := of_decide_eq_true (by first | (with_reducible assumption) | assumption)
              obtain ⟨ad262, e262, hx262_0⟩ := Kd.at_int HR0_1.out x50_2 p262 q262
              cases e262
              replace hx262_0 := (HB.out.cell (World.block_lt_of_cell? w _ hx262_0)).trans hx262_0
              replace p262 := eq_true p262
              replace q262 := eq_true q262
              obtain ⟨Ao91, co91, eo91⟩ := Kd.N_slice HO_6.out
              subst eo91
              go_wp2_with (first | ((with_reducible refine gate_callee (f := 30) rfl ?_); refine goesL_ (some 64) rfl rfl Try.func30 (by kernel_rfl) rfl #[.int .i64 (rd l0_1 x50_2), .int .i64 0, .int .i64 (wrap64 ((t246.length : Int) - 1))] rfl lU ?_; (with_reducible refine (impl_within.calls (rd l0_1 x50_2) 0 (wrap64 ((t246.length : Int) - 1)) false _ A81.out).mono ?_); rintro e w' ⟨rfl, ⟨nd, rfl⟩⟩; refine ⟨_, rfl, ?_⟩; (try (rw [drewN_self wr]; generalize hq_ : World.drewN wr _ = wr; have n0_ : Aside0 (Kd.V (Kd.int .i64) 3 wr w.heap.size (fun k_ => ((P0_0_ k_ ∨ P1_0_ k_) ∨ w.heap.size ≤ k_) ∧ some k_ ≠ (.slice Ao56 t257.length co56 : Value).ownBlock ∧ some k_ ≠ (u261001 : Value).ownBlock ∧ some k_ ≠ (.slice Ao91 t246.length co91 : Value).ownBlock ∧ k_ ≠ gb241 ∧ k_ ≠ gb242 ∧ k_ ≠ gb243 ∧ k_ ≠ gb260) (.slice A0_0 l0_0.length c0_0) l0_0) := ⟨by rw [← hq_]; exact (by refine VU ?_; exact Kd.V_mono HO_242000.out (fun _ hk => ⟨hk.1, ⟨hk.2.2.1, ⟨hk.2.2.2.1, ⟨hk.2.1, ⟨hk.2.2.2.2.1, ⟨hk.2.2.2.2.2.1, ⟨hk.2.2.2.2.2.2.1, hk.2.2.2.2.2.2.2⟩⟩⟩⟩⟩⟩⟩))⟩; have n1_ : Aside0 (Kd.V (Kd.int .i64) 3 wr w.heap.size (fun k_ => ((P0_0_ k_ ∨ P1_0_ k_) ∨ w.heap.size ≤ k_) ∧ some k_ ≠ (.slice Ao56 t257.length co56 : Value).ownBlock ∧ some k_ ≠ (u261001 : Value).ownBlock ∧ some k_ ≠ (.slice Ao91 t246.length co91 : Value).ownBlock ∧ k_ ≠ gb241 ∧ k_ ≠ gb242 ∧ k_ ≠ gb243 ∧ k_ ≠ gb260) (.slice A1_0 l1_0.length c1_0) l1_0) := ⟨by rw [← hq_]; exact (by refine VU ?_; exact Kd.V_mono HO_243000.out (fun _ hk => ⟨hk.1, ⟨hk.2.2.1, ⟨hk.2.2.2.1, ⟨hk.2.1, ⟨hk.2.2.2.2.1, ⟨hk.2.2.2.2.2.1, ⟨hk.2.2.2.2.2.2.1, hk.2.2.2.2.2.2.2⟩⟩⟩⟩⟩⟩⟩))⟩; have n2_ : Aside0 (Kd.R (Kd.int .i64) 3 wr w.heap.size (fun k_ => (w.heap.size ≤ k_) ∧ some k_ ≠ (u261001 : Value).ownBlock) (.slice Ao56 t257.length co56) t257) := ⟨by rw [← hq_]; exact (RU HO_261000.out)⟩; have n3_ : Aside0 (Kd.R (Kd.int .i64) 3 wr w.heap.size (fun k_ => (w.heap.size ≤ k_) ∧ some k_ ≠ (.slice Ao56 t257.length co56 : Value).ownBlock) u261001 x261001_2) := ⟨by rw [← hq_]; exact (RU HO_261001.out)⟩; have n4_ : Aside0 (Kd.N k28 28 wr w.heap.size (fun k_ => ((P0_0_ k_ ∨ P1_0_ k_) ∨ w.heap.size ≤ k_) ∧ some k_ ≠ (.slice Ao56 t257.length co56 : Value).ownBlock ∧ some k_ ≠ (u261001 : Value).ownBlock ∧ k_ ≠ gb241 ∧ k_ ≠ gb242 ∧ k_ ≠ gb243 ∧ k_ ≠ gb260) (.slice Ao91 t246.length co91) t246) := ⟨by rw [← hq_]; exact (NU HO_6.out)⟩; have n5_ : Aside0 (wr.heap[gb241]? = some (.cells #[.slice A0_0 l0_0.length c0_0, .slice (some ad262) l0_1.length c0_1] 28 (0, 0))) := ⟨by rw [← hq_]; exact (kU BK241.out)⟩; have n6_ : Aside0 (wr.heap[gb242]? = some (.cells #[.slice A1_0 l1_0.length c1_0, .slice A1_1 l1_1.length c1_1] 28 (0, 0))) := ⟨by rw [← hq_]; exact (kU BK242.out)⟩; have n7_ : Aside0 (wr.heap[gb243]? = some (.cells #[.slice none 0 0, .slice none 0 0] 28 (0, 0))) := ⟨by rw [← hq_]; exact (kU BK243.out)⟩; have n8_ : Aside0 (wr.heap[gb260]? = some (.cells #[.slice Ao56 t257.length co56, u261001] 28 (0, 0))) := ⟨by rw [← hq_]; exact (kU BK260.out)⟩; have n9_ : Aside0 (Below w.heap.size w wr) := ⟨by rw [← hq_]; exact (bS4 HB.out GE241.out GE242.out GE243.out GE260.out)⟩; clear HO_242000 HO_243000 HO_261000 HO_261001 HO_6 BK241 BK242 BK243 BK260 HB hq_; have HO_242000 := n0_; have HO_243000 := n1_; have HO_261000 := n2_; have HO_261001 := n3_; have HO_6 := n4_; have BK241 := n5_; have BK242 := n6_; have BK243 := n7_; have BK260 := n8_; have HB := n9_; clear n0_ n1_ n2_ n3_ n4_ n5_ n6_ n7_ n8_ n9_)); have hnb92 := NB243_241.out; have hnc92 := NB241_243.out; have hnb93 := NB243_242.out; have hnc93 := NB242_243.out; have hnb94 := NB243_260.out; have hnc94 := NB260_243.out; have hcz95_0 : wr.cell? ⟨gb243, 0, none⟩ = some (.slice none 0 0) := (blk_cell BK243.out 0).trans rfl; have hcz95_1 : wr.cell? ⟨gb243, 1, none⟩ = some (.slice none 0 0) := (blk_cell BK243.out 1).trans rfl; have hfz95_0 := blk_frozen BK243.out 0; have hfz95_1 := blk_frozen BK243.out 1))
              refine bodyPost_ret (results_ct rfl _ _ gb243 28 #[.slice none 0 0, .slice none 0 0] (0, 0) _ rfl (by refine kU ?_; refine blk_put (cs := #[.slice none 0 0, .slice none 0 0]) ?_ 1 _ rfl; refine kU ?_; refine blk_put (cs := #[.slice none 0 0, .slice none 0 0]) ?_ 0 _ rfl; refine kU ?_; exact BK243.out) Try.underlying28 rfl (by kernel_rfl)) rfl ?_
              exact ⟨_, _, by first | rfl | (simp [errW_none, errW_some] <;> rfl) | (simp [*, errW_none, errW_some] <;> rfl), by first | exact Kd.R_nil _ _ _ _ _ | exact Kd.N_nil _ _ _ _ _ | exact Kd.V_nil _ _ _ _ _ | exact Kd.Q_nil _ _ _ _ _ | exact Kd.S_nil _ _ _ _ _, by first | exact Kd.R_nil _ _ _ _ _ | exact Kd.N_nil _ _ _ _ _ | exact Kd.V_nil _ _ _ _ _ | exact Kd.Q_nil _ _ _ _ _ | exact Kd.S_nil _ _ _ _ _, by exact bS4 HB.out GE241.out GE242.out GE243.out GE260.out⟩
           ·
            rw [if_neg c63] at H
            exact absurd H (by simp)
          ·
           rw [if_neg c62] at H
           exact absurd H (by simp)
         ·
          rw [if_neg c61] at H
          have c61b0 : decide (x50_2 < (l0_1.length : Int)) = false := decide_eq_false c61
          clear c61
          replace H := Option.bind_eq_some_iff.mp H
          obtain ⟨t261, A960, H⟩ := H
          replace H : (if t261 = true then (some (t257, x261001_2, 0)) else (some (([] : List Int), ([] : List Int), 6))) = some (r1, r2, r3) := H
          have A96 := Aside0.mk A960
          clear A960
          by_cases c97 : t261 = true
          ·
           subst c97
           have H1 : (some (t257, x261001_2, 0)) = some (r1, r2, r3) := by rw [if_pos rfl] at H; exact H
           clear H
           have H := H1
           clear H1
           simp only [Option.some.injEq, Prod.mk.injEq] at H
           obtain ⟨rfl, rfl, rfl⟩ := H
           have hnb98 := NB260_241.out
           have hnc98 := NB241_260.out
           have hnb99 := NB260_242.out
           have hnc99 := NB242_260.out
           have hnb100 := NB260_243.out
           have hnc100 := NB243_260.out
           have hcz101_0 : wr.cell? ⟨gb260, 0, none⟩ = some (.slice Ao56 t257.length co56) := (blk_cell BK260.out 0).trans rfl
           have hcz101_1 : wr.cell? ⟨gb260, 1, none⟩ = some (u261001) := (blk_cell BK260.out 1).trans rfl
           have hfz101_0 := blk_frozen BK260.out 0
           have hfz101_1 := blk_frozen BK260.out 1
           obtain ⟨Ao102, co102, eo102⟩ := Kd.R_slice HO_261001.out
           subst eo102
           go_wp2_with (first | ((with_reducible refine gate_callee (f := 21) rfl ?_); refine goesL_ (some 78) rfl rfl Try.func21 (by kernel_rfl) rfl #[.agg #[.slice Ao56 t257.length co56, .slice Ao102 x261001_2.length co102]] rfl lU ?_; (with_reducible refine (impl_ArrayOk.calls k2 _ _ t257 _ _ x261001_2 true _ ?side1 ?side2 ?side3 ?side4 A96.out).mono ?_); (case side1 => exact cU (Kd.R_reads' HO_261000.out).2.2); (case side2 => exact (Kd.R_reads' HO_261000.out).2.1); (case side3 => exact cU (Kd.R_reads' HO_261001.out).2.2); (case side4 => exact (Kd.R_reads' HO_261001.out).2.1); rintro e w103 ⟨rfl, hb⟩; refine ⟨_, rfl, ?_⟩; replace HO_6 := Aside0.mk (Kd.N_below (NU HO_6.out) hb); replace HO_242000 := Aside0.mk (Kd.V_below (VU HO_242000.out) hb); replace HO_243000 := Aside0.mk (Kd.V_below (VU HO_243000.out) hb); replace HO_261000 := Aside0.mk (Kd.R_below (RU HO_261000.out) hb); replace HO_261001 := Aside0.mk (Kd.R_below (RU HO_261001.out) hb); replace BK241 := Aside0.mk (kB BK241.out hb); replace BK242 := Aside0.mk (kB BK242.out hb); replace BK243 := Aside0.mk (kB BK243.out hb); replace BK260 := Aside0.mk (kB BK260.out hb); replace HB := Aside0.mk (below_step (bS4 HB.out GE241.out GE242.out GE243.out GE260.out) hb); (try clear hb); (try clear hb2); (try clear hk); (try clear hi); have hcz104_0 : w103.cell? ⟨gb260, 0, none⟩ = some (.slice Ao56 t257.length co56) := (blk_cell BK260.out 0).trans rfl; have hcz104_1 : w103.cell? ⟨gb260, 1, none⟩ = some (.slice Ao102 x261001_2.length co102) := (blk_cell BK260.out 1).trans rfl; have hfz104_0 := blk_frozen BK260.out 0; have hfz104_1 := blk_frozen BK260.out 1; have hnb105 := NB243_241.out; have hnc105 := NB241_243.out; have hnb106 := NB243_242.out; have hnc106 := NB242_243.out; have hcz107_0 : w103.cell? ⟨gb243, 0, none⟩ = some (.slice none 0 0) := (blk_cell BK243.out 0).trans rfl; have hcz107_1 : w103.cell? ⟨gb243, 1, none⟩ = some (.slice none 0 0) := (blk_cell BK243.out 1).trans rfl; have hfz107_0 := blk_frozen BK243.out 0; have hfz107_1 := blk_frozen BK243.out 1))
           refine bodyPost_ret (results_ct rfl _ _ gb243 28 #[.slice Ao56 t257.length co56, .slice Ao102 x261001_2.length co102] (0, 0) _ rfl (by refine kU ?_; refine blk_put (cs := #[.slice Ao56 t257.length co56, .slice none 0 0]) ?_ 1 _ rfl; refine kU ?_; refine blk_put (cs := #[.slice none 0 0, .slice none 0 0]) ?_ 0 _ rfl; refine kU ?_; exact BK243.out) Try.underlying28 rfl (by kernel_rfl)) rfl ?_
           exact ⟨_, _, by first | rfl | (simp [errW_none, errW_some] <;> rfl) | (simp [*, errW_none, errW_some] <;> rfl), by refine RU ?_; exact Kd.R_mono (Kd.R_far (p := ⟨gb243, 1, none⟩) (Kd.R_far (p := ⟨gb243, 0, none⟩) (Kd.R_types HO_261000.out BK243.out (by decide)) (fun _ hk => hk.2) (.slice Ao56 t257.length co56)) (fun _ hk => hk.2) (.slice Ao102 x261001_2.length co102)) (fun _ hk => ⟨hk.1.1, hk.1.2⟩), by refine RU ?_; exact Kd.R_mono (Kd.R_far (p := ⟨gb243, 1, none⟩) (Kd.R_far (p := ⟨gb243, 0, none⟩) (Kd.R_types HO_261001.out BK243.out (by decide)) (fun _ hk => hk.2) (.slice Ao56 t257.length co56)) (fun _ hk => hk.2) (.slice Ao102 x261001_2.length co102)) (fun _ hk => ⟨hk.1.1, hk.1.2⟩), by exact bS4 HB.out GE241.out GE242.out GE243.out GE260.out⟩
          ·
           replace c97 := Bool.eq_false_iff.mpr c97
           subst c97
           have H1 : (some (([] : List Int), ([] : List Int), 6)) = some (r1, r2, r3) := by rw [if_neg (show ¬ (false = true) by decide)] at H; exact H
           clear H
           have H := H1
           clear H1
           simp only [Option.some.injEq, Prod.mk.injEq] at H
           obtain ⟨rfl, rfl, rfl⟩ := H
           have hnb108 := NB260_241.out
           have hnc108 := NB241_260.out
           have hnb109 := NB260_242.out
           have hnc109 := NB242_260.out
           have hnb110 := NB260_243.out
           have hnc110 := NB243_260.out
           have hcz111_0 : wr.cell? ⟨gb260, 0, none⟩ = some (.slice Ao56 t257.length co56) := (blk_cell BK260.out 0).trans rfl
           have hcz111_1 : wr.cell? ⟨gb260, 1, none⟩ = some (u261001) := (blk_cell BK260.out 1).trans rfl
           have hfz111_0 := blk_frozen BK260.out 0
           have hfz111_1 := blk_frozen BK260.out 1
           obtain ⟨Ao112, co112, eo112⟩ := Kd.R_slice HO_261001.out
           subst eo112
           go_wp2_with (first | ((with_reducible refine gate_callee (f := 21) rfl ?_); refine goesL_ (some 78) rfl rfl Try.func21 (by kernel_rfl) rfl #[.agg #[.slice Ao56 t257.length co56, .slice Ao112 x261001_2.length co112]] rfl lU ?_; (with_reducible refine (impl_ArrayOk.calls k2 _ _ t257 _ _ x261001_2 false _ ?side1 ?side2 ?side3 ?side4 A96.out).mono ?_); (case side1 => exact cU (Kd.R_reads' HO_261000.out).2.2); (case side2 => exact (Kd.R_reads' HO_261000.out).2.1); (case side3 => exact cU (Kd.R_reads' HO_261001.out).2.2); (case side4 => exact (Kd.R_reads' HO_261001.out).2.1); rintro e w113 ⟨rfl, hb⟩; refine ⟨_, rfl, ?_⟩; replace HO_6 := Aside0.mk (Kd.N_below (NU HO_6.out) hb); replace HO_242000 := Aside0.mk (Kd.V_below (VU HO_242000.out) hb); replace HO_243000 := Aside0.mk (Kd.V_below (VU HO_243000.out) hb); replace HO_261000 := Aside0.mk (Kd.R_below (RU HO_261000.out) hb); replace HO_261001 := Aside0.mk (Kd.R_below (RU HO_261001.out) hb); replace BK241 := Aside0.mk (kB BK241.out hb); replace BK242 := Aside0.mk (kB BK242.out hb); replace BK243 := Aside0.mk (kB BK243.out hb); replace BK260 := Aside0.mk (kB BK260.out hb); replace HB := Aside0.mk (below_step (bS4 HB.out GE241.out GE242.out GE243.out GE260.out) hb); (try clear hb); (try clear hb2); (try clear hk); (try clear hi); have hnb114 := NB243_241.out; have hnc114 := NB241_243.out; have hnb115 := NB243_242.out; have hnc115 := NB242_243.out; have hcz116_0 : w113.cell? ⟨gb243, 0, none⟩ = some (.slice none 0 0) := (blk_cell BK243.out 0).trans rfl; have hcz116_1 : w113.cell? ⟨gb243, 1, none⟩ = some (.slice none 0 0) := (blk_cell BK243.out 1).trans rfl; have hfz116_0 := blk_frozen BK243.out 0; have hfz116_1 := blk_frozen BK243.out 1))
           refine bodyPost_ret (results_ct rfl _ _ gb243 28 #[.slice none 0 0, .slice none 0 0] (0, 0) _ rfl (by refine kU ?_; refine blk_put (cs := #[.slice none 0 0, .slice none 0 0]) ?_ 1 _ rfl; refine kU ?_; refine blk_put (cs := #[.slice none 0 0, .slice none 0 0]) ?_ 0 _ rfl; refine kU ?_; exact BK243.out) Try.underlying28 rfl (by kernel_rfl)) rfl ?_
           exact ⟨_, _, by first | rfl | (simp [errW_none, errW_some] <;> rfl) | (simp [*, errW_none, errW_some] <;> rfl), by first | exact Kd.R_nil _ _ _ _ _ | exact Kd.N_nil _ _ _ _ _ | exact Kd.V_nil _ _ _ _ _ | exact Kd.Q_nil _ _ _ _ _ | exact Kd.S_nil _ _ _ _ _, by first | exact Kd.R_nil _ _ _ _ _ | exact Kd.N_nil _ _ _ _ _ | exact Kd.V_nil _ _ _ _ _ | exact Kd.Q_nil _ _ _ _ _ | exact Kd.S_nil _ _ _ _ _, by exact bS4 HB.out GE241.out GE242.out GE243.out GE260.out⟩
      ·
       rw [if_neg c39] at H
       exact absurd H (by simp)

end Go.Proofs.Ytnpcjppcoejgmaa.PFnExactPick
