/- The walk of what a law reaches, for the law's row: written by a program of this session; it has no condition of its own. -/
import Derived.Test.YtcnbajdnlkcjjaaPFnExactJoinx0
import Derived.Test.YtcnbajdnlkcjjaaQ
import Derived.Test.YtcnbajdnlkcjjaaPFnExactJoinx1
import Derived.Test.YtcnbajdnlkcjjaaPFnExactJoinx3p2
import Derived.Test.YtcnbajdnlkcjjaaPFnExactJoinx7
namespace Go.Proofs.Ytcnbajdnlkcjjaa.PFnExactJoin
open Go.RowKit Go.Proofs.YtcnbajdnlkcjjaaW.PrintWords Go.Proofs.YtcnbajdnlkcjjaaW.PrintLast Go.Proofs.YtcnbajdnlkcjjaaW.PrintMore Go.Proofs.YtcnbajdnlkcjjaaQ
attribute [local go_sem] max2_int min2_int max_two min_two max_three min_three max_four min_four   -- for this text's walks alone
set_option linter.unusedVariables false
set_option linter.unusedSimpArgs false

/-! ### laws_FnExactJoin: function 12 -/
mutual
def laws_FnExactJoin.j0 : Nat → Int → Int → Bool → List Int → List Int → List Int → List Int → List Int → List Int → List Int → List Int → List Int → List Int → List Int → List Int → Option (Bool)
 | 0, _, _, _, _, _, _, _, _, _, _, _, _, _, _, _ => none
 | k + 1, x7, x11, x53, x341000, x341001, x342000, x342001, x364000, x364001, x371000, x371001, x378000, x378001, x386000, x386001 => if x53 = true then (some false) else ((laws_toArray.f k x341000 x341001).bind fun bt387 => ((laws_eqArray.f k x371000 x371001 bt387.1 bt387.2).bind fun t393 => (if t393 = true then ((laws_toArray.f k x342000 x342001).bind fun bt394 => ((laws_eqArray.f k x378000 x378001 bt394.1 bt394.2).bind fun t400 => (if t400 = true then ((laws_markArray.f k x371000 x371001 1).bind fun bt401 => ((laws_markArray.f k x378000 x378001 bt401.1).bind fun bt404 => (if bt404.1 < 0 then (laws_FnExactJoin.j1 k x7 true x341000 x341001 x342000 x342001 x364000 x364001 x386000 x386001) else ((laws_eqArray.f k x386000 x386001 x364000 x364001).bind fun t407 => (if t407 = true then (laws_FnExactJoin.j1 k x7 (x11 != x7) x341000 x341001 x342000 x342001 x364000 x364001 x386000 x386001) else (laws_FnExactJoin.j1 k x7 true x341000 x341001 x342000 x342001 x364000 x364001 x386000 x386001)))))) else (some false)))) else (some false))))
def laws_FnExactJoin.j1 : Nat → Int → Bool → List Int → List Int → List Int → List Int → List Int → List Int → List Int → List Int → Option (Bool)
 | 0, _, _, _, _, _, _, _, _, _, _ => none
 | k + 1, x7, x82, x341000, x341001, x342000, x342001, x364000, x364001, x386000, x386001 => if x82 = true then (some false) else ((laws_markArray.f k x386000 x386001 1).bind fun bt408 => ((laws_heldArray.f k bt408.2.1 bt408.2.2 1).bind fun t411 => (if t411 < 0 then (some false) else (if t411 = bt408.1 then ((laws_toArray.f k x341000 x341001).bind fun bt412 => ((laws_toArray.f k x342000 x342001).bind fun bt418 => ((impl_Join.f k bt412.1 bt412.2 bt418.1 bt418.2).bind fun bt424 => ((laws_eqArray.f k bt424.1 bt424.2.1 x364000 x364001).bind fun t432 => (if t432 = true then (laws_FnExactJoin.j2 k bt408.1 (bt424.2.2 != x7) bt408.2.1 bt408.2.2) else (laws_FnExactJoin.j2 k bt408.1 true bt408.2.1 bt408.2.2)))))) else (some false)))))
def laws_FnExactJoin.j2 : Nat → Int → Bool → List Int → List Int → Option (Bool)
 | 0, _, _, _, _ => none
 | k + 1, x13, x110, x386000, x386001 => if x110 = true then (some false) else ((laws_heldArray.f k x386000 x386001 1).bind fun t433 => (if t433 < 0 then (some false) else (if t433 = x13 then (some true) else (some false))))
end
def laws_FnExactJoin.f (k : Nat) (l0_0 : List Int) (l0_1 : List Int) (l1_0 : List Int) (l1_1 : List Int) : Option (Bool) := (laws_szArray.f l0_0 l0_1 1048576).bind fun t342 => (if t342 < 0 then (some true) else ((laws_szArray.f l1_0 l1_1 t342).bind fun t343 => (if t343 < 0 then (some true) else ((laws_toArray.f k l0_0 l0_1).bind fun bt344 => ((laws_toArray.f k l1_0 l1_1).bind fun bt350 => ((spec_Join.f k bt344.1 bt344.2 bt350.1 bt350.2).bind fun bt356 => ((laws_toArray.f k l0_0 l0_1).bind fun bt364 => ((laws_toArray.f k l1_0 l1_1).bind fun bt371 => ((impl_Join.f k bt364.1 bt364.2 bt371.1 bt371.2).bind fun bt378 => ((laws_eqArray.f k bt378.1 bt378.2.1 bt356.1 bt356.2.1).bind fun t386 => (if t386 = true then (laws_FnExactJoin.j0 k bt356.2.2 bt378.2.2 (bt378.2.2 != bt356.2.2) l0_0 l0_1 l1_0 l1_1 bt356.1 bt356.2.1 bt364.1 bt364.2 bt371.1 bt371.2 bt378.1 bt378.2.1) else (laws_FnExactJoin.j0 k bt356.2.2 bt378.2.2 true l0_0 l0_1 l1_0 l1_1 bt356.1 bt356.2.1 bt364.1 bt364.2 bt371.1 bt371.2 bt378.1 bt378.2.1))))))))))))
def laws_FnExactJoin.T8 : Bool × List (List Nat × List Nat) := (true, [([], []), ([0], [0]), ([], []), ([2, 1], [2]), ([1, 3, 3], [1, 3]), ([4], [4]), ([5], [5]), ([5], [5]), ([], []), ([8, 6, 4, 0, 1, 2, 3, 4, 5, 6, 8], [6, 8]), ([7, 9, 0, 1, 2, 3, 4, 5, 6, 7, 8, 9], [7])])
def laws_FnExactJoin.B8 : List Nat := [0, 1, 0, 7, 15, 31, 63, 63, 0, 383, 1023]
theorem laws_FnExactJoin.tab8 : rtab .any (opsOf Try.f12 8) = laws_FnExactJoin.T8 := by kernel_rfl
theorem laws_FnExactJoin.bits8 : waitsOk laws_FnExactJoin.T8.2 laws_FnExactJoin.B8 = true := by kernel_rfl
def laws_FnExactJoin.T31 : Bool × List (List Nat × List Nat) := (true, [([], []), ([0], [0]), ([], []), ([2, 1], [2]), ([1, 3, 3], [1, 3]), ([4], [4]), ([5], [5]), ([5], [5]), ([], []), ([8, 6, 4, 0, 1, 2, 3, 4, 5, 6, 8], [6, 8]), ([7, 9, 0, 1, 2, 3, 4, 5, 6, 7, 8, 9], [7])])
def laws_FnExactJoin.B31 : List Nat := [0, 1, 0, 7, 15, 31, 63, 63, 0, 383, 1023]
theorem laws_FnExactJoin.tab31 : rtab .any (opsOf Try.f12 31) = laws_FnExactJoin.T31 := by kernel_rfl
theorem laws_FnExactJoin.bits31 : waitsOk laws_FnExactJoin.T31.2 laws_FnExactJoin.B31 = true := by kernel_rfl
set_option maxHeartbeats 8000000 in
set_option maxRecDepth 100000 in
def laws_FnExactJoin.part1 : {P : Prop // (True → P) → ∀ (k : Nat) (A0_0 : Option Addr) (c0_0 : Nat) (l0_0 : List Int) (A0_1 : Option Addr) (c0_1 : Nat) (l0_1 : List Int) (A1_0 : Option Addr) (c1_0 : Nat) (l1_0 : List Int) (A1_1 : Option Addr) (c1_1 : Nat) (l1_1 : List Int) (r : Bool) (w : World) (hr0_0 : Kd.C (Kd.int .i64) w A0_0 l0_0.length l0_0) (hc0_0 : l0_0.length ≤ c0_0) (hr0_1 : Kd.C (Kd.int .i64) w A0_1 l0_1.length l0_1) (hc0_1 : l0_1.length ≤ c0_1) (hr1_0 : Kd.C (Kd.int .i64) w A1_0 l1_0.length l1_0) (hc1_0 : l1_0.length ≤ c1_0) (hr1_1 : Kd.C (Kd.int .i64) w A1_1 l1_1.length l1_1) (hc1_1 : l1_1.length ≤ c1_1) (h : laws_FnExactJoin.f k l0_0 l0_1 l1_0 l1_1 = some r) (hT : r = true), Calls Try.prog 12 #[.agg #[.slice A0_0 l0_0.length c0_0, .slice A0_1 l0_1.length c0_1], .agg #[.slice A1_0 l1_0.length c1_0, .slice A1_1 l1_1.length c1_1]] w fun e w' => e = .returned (.bool r) ∧ Below w.heap.size w w'} := ⟨_, fun hRest_ => by
 intro k A0_0 c0_0 l0_0 A0_1 c0_1 l0_1 A1_0 c1_0 l1_0 A1_1 c1_1 l1_1 r w hr0_0 hc0_0 hr0_1 hc0_1 hr1_0 hc1_0 hr1_1 hc1_1 h hT
 have HT := Aside0.mk hT
 clear hT
 have hu24 := Try.underlying24
 have hu26 := Try.underlying26
 have HR0_0 := Aside0.mk hr0_0
 have HC0_0 := Aside0.mk hc0_0
 clear hr0_0 hc0_0
 have HR0_1 := Aside0.mk hr0_1
 have HC0_1 := Aside0.mk hc0_1
 clear hr0_1 hc0_1
 have HR1_0 := Aside0.mk hr1_0
 have HC1_0 := Aside0.mk hc1_0
 clear hr1_0 hc1_0
 have HR1_1 := Aside0.mk hr1_1
 have HC1_1 := Aside0.mk hc1_1
 clear hr1_1 hc1_1
 have HB := Aside0.mk (Below.refl w.heap.size w)
 have H : ((laws_szArray.f l0_0 l0_1 1048576).bind fun t342 => (if t342 < 0 then (some true) else ((laws_szArray.f l1_0 l1_1 t342).bind fun t343 => (if t343 < 0 then (some true) else ((laws_toArray.f k l0_0 l0_1).bind fun bt344 => ((laws_toArray.f k l1_0 l1_1).bind fun bt350 => ((spec_Join.f k bt344.1 bt344.2 bt350.1 bt350.2).bind fun bt356 => ((laws_toArray.f k l0_0 l0_1).bind fun bt364 => ((laws_toArray.f k l1_0 l1_1).bind fun bt371 => ((impl_Join.f k bt364.1 bt364.2 bt371.1 bt371.2).bind fun bt378 => ((laws_eqArray.f k bt378.1 bt378.2.1 bt356.1 bt356.2.1).bind fun t386 => (if t386 = true then (laws_FnExactJoin.j0 k bt356.2.2 bt378.2.2 (bt378.2.2 != bt356.2.2) l0_0 l0_1 l1_0 l1_1 bt356.1 bt356.2.1 bt364.1 bt364.2 bt371.1 bt371.2 bt378.1 bt378.2.1) else (laws_FnExactJoin.j0 k bt356.2.2 bt378.2.2 true l0_0 l0_1 l1_0 l1_1 bt356.1 bt356.2.1 bt364.1 bt364.2 bt371.1 bt371.2 bt378.1 bt378.2.1))))))))))))) = some r := h
 clear h
 replace H := Option.bind_eq_some_iff.mp H
 obtain ⟨t342, A30, H⟩ := H
 replace H : (if t342 < 0 then (some true) else ((laws_szArray.f l1_0 l1_1 t342).bind fun t343 => (if t343 < 0 then (some true) else ((laws_toArray.f k l0_0 l0_1).bind fun bt344 => ((laws_toArray.f k l1_0 l1_1).bind fun bt350 => ((spec_Join.f k bt344.1 bt344.2 bt350.1 bt350.2).bind fun bt356 => ((laws_toArray.f k l0_0 l0_1).bind fun bt364 => ((laws_toArray.f k l1_0 l1_1).bind fun bt371 => ((impl_Join.f k bt364.1 bt364.2 bt371.1 bt371.2).bind fun bt378 => ((laws_eqArray.f k bt378.1 bt378.2.1 bt356.1 bt356.2.1).bind fun t386 => (if t386 = true then (laws_FnExactJoin.j0 k bt356.2.2 bt378.2.2 (bt378.2.2 != bt356.2.2) l0_0 l0_1 l1_0 l1_1 bt356.1 bt356.2.1 bt364.1 bt364.2 bt371.1 bt371.2 bt378.1 bt378.2.1) else (laws_FnExactJoin.j0 k bt356.2.2 bt378.2.2 true l0_0 l0_1 l1_0 l1_1 bt356.1 bt356.2.1 bt364.1 bt364.2 bt371.1 bt371.2 bt378.1 bt378.2.1)))))))))))) = some r := H
 have A3 := Aside0.mk A30
 clear A30
 by_cases c4 : t342 < 0
 ·
  rw [if_pos c4] at H
  have c4b0 : decide (t342 < 0) = true := decide_eq_true c4
  clear c4
  obtain rfl := Option.some.inj H
  go_enter Try.func12, Try.ntmps12
  go_wp2_with (first | ((with_reducible refine gate_dst (N := 2) rfl ?_); refine box_event ?hg (N := 2) ?hd (cs := #[.slice A0_0 l0_0.length c0_0, .slice A0_1 l0_1.length c0_1]) (t := 24) ?hr ?_; (case hd => rfl); (case hg => rfl); (case hr => first | (go_simp; done) | (go_simp; rfl)); intro gb340 hg w5 hbox hb; have BK340 := Aside0.mk (hbox); have GW340 := Aside0.mk ((by rw [hg]; exact (below_size (bU HB.out)) : w.heap.size ≤ gb340)); have GE340 := Aside0.mk ((by rw [hg]; exact (below_size (bU HB.out)) : w.heap.size ≤ gb340)); replace HB := Aside0.mk (below_step (bU HB.out) hb); clear hb hbox hg) | ((with_reducible refine gate_dst (N := 3) rfl ?_); refine box_event ?hg (N := 3) ?hd (cs := #[.slice A1_0 l1_0.length c1_0, .slice A1_1 l1_1.length c1_1]) (t := 24) ?hr ?_; (case hd => rfl); (case hg => rfl); (case hr => first | (go_simp; done) | (go_simp; rfl)); intro gb341 hg w6 hbox hb; have BK341 := Aside0.mk (hbox); have GW341 := Aside0.mk ((by rw [hg]; exact (below_size (bS1 HB.out GE340.out)) : w.heap.size ≤ gb341)); have GE341 := Aside0.mk ((by rw [hg]; exact (below_size (bS1 HB.out GE340.out)) : w.heap.size ≤ gb341)); replace HB := Aside0.mk (below_step (bS1 HB.out GE340.out) hb); have NB340_341 := Aside0.mk (kN BK340.out hg); have NB341_340 := Aside0.mk (kM BK340.out hg); replace BK340 := Aside0.mk (kB BK340.out hb); clear hb hbox hg; have hnb7 := NB340_341.out; have hnc7 := NB341_340.out; have hcz8_0 : w6.cell? ⟨gb340, 0, none⟩ = some (.slice A0_0 l0_0.length c0_0) := (blk_cell BK340.out 0).trans rfl; have hcz8_1 : w6.cell? ⟨gb340, 1, none⟩ = some (.slice A0_1 l0_1.length c0_1) := (blk_cell BK340.out 1).trans rfl; have hfz8_0 := blk_frozen BK340.out 0; have hfz8_1 := blk_frozen BK340.out 1) | ((with_reducible refine gate_callee (f := 15) rfl ?_); refine goesL_ (some 19) rfl rfl Try.func15 (by kernel_rfl) rfl #[.agg #[.slice A0_0 l0_0.length c0_0, .slice A0_1 l0_1.length c0_1], .int .i64 1048576] rfl lU ?_; (with_reducible refine (laws_szArray.calls _ _ l0_0 _ _ l0_1 1048576 t342 _ ?side1 ?side2 ?side3 ?side4 A3.out).mono ?_); (case side1 => exact cU (Kd.C_below HR0_0.out HB.out)); (case side2 => exact HC0_0.out); (case side3 => exact cU (Kd.C_below HR0_1.out HB.out)); (case side4 => exact HC0_1.out); rintro e w9 ⟨rfl, hb⟩; refine ⟨_, rfl, ?_⟩; replace BK340 := Aside0.mk (kB BK340.out hb); replace BK341 := Aside0.mk (kB BK341.out hb); replace HB := Aside0.mk (below_step (bS2 HB.out GE340.out GE341.out) hb); (try clear hb); (try clear hb2); (try clear hk); (try clear hi)))
  go_ret
  exact ⟨by first | rfl | (simp [errW_none, errW_some] <;> rfl) | (simp [*, errW_none, errW_some] <;> rfl), by exact bS2 HB.out GE340.out GE341.out⟩
 ·
  rw [if_neg c4] at H
  have c4b0 : decide (t342 < 0) = false := decide_eq_false c4
  clear c4
  replace H := Option.bind_eq_some_iff.mp H
  obtain ⟨t343, A100, H⟩ := H
  replace H : (if t343 < 0 then (some true) else ((laws_toArray.f k l0_0 l0_1).bind fun bt344 => ((laws_toArray.f k l1_0 l1_1).bind fun bt350 => ((spec_Join.f k bt344.1 bt344.2 bt350.1 bt350.2).bind fun bt356 => ((laws_toArray.f k l0_0 l0_1).bind fun bt364 => ((laws_toArray.f k l1_0 l1_1).bind fun bt371 => ((impl_Join.f k bt364.1 bt364.2 bt371.1 bt371.2).bind fun bt378 => ((laws_eqArray.f k bt378.1 bt378.2.1 bt356.1 bt356.2.1).bind fun t386 => (if t386 = true then (laws_FnExactJoin.j0 k bt356.2.2 bt378.2.2 (bt378.2.2 != bt356.2.2) l0_0 l0_1 l1_0 l1_1 bt356.1 bt356.2.1 bt364.1 bt364.2 bt371.1 bt371.2 bt378.1 bt378.2.1) else (laws_FnExactJoin.j0 k bt356.2.2 bt378.2.2 true l0_0 l0_1 l1_0 l1_1 bt356.1 bt356.2.1 bt364.1 bt364.2 bt371.1 bt371.2 bt378.1 bt378.2.1)))))))))) = some r := H
  have A10 := Aside0.mk A100
  clear A100
  by_cases c11 : t343 < 0
  ·
   rw [if_pos c11] at H
   have c11b0 : decide (t343 < 0) = true := decide_eq_true c11
   clear c11
   obtain rfl := Option.some.inj H
   go_enter Try.func12, Try.ntmps12
   go_wp2_with (first | ((with_reducible refine gate_dst (N := 2) rfl ?_); refine box_event ?hg (N := 2) ?hd (cs := #[.slice A0_0 l0_0.length c0_0, .slice A0_1 l0_1.length c0_1]) (t := 24) ?hr ?_; (case hd => rfl); (case hg => rfl); (case hr => first | (go_simp; done) | (go_simp; rfl)); intro gb340 hg w12 hbox hb; have BK340 := Aside0.mk (hbox); have GW340 := Aside0.mk ((by rw [hg]; exact (below_size (bU HB.out)) : w.heap.size ≤ gb340)); have GE340 := Aside0.mk ((by rw [hg]; exact (below_size (bU HB.out)) : w.heap.size ≤ gb340)); replace HB := Aside0.mk (below_step (bU HB.out) hb); clear hb hbox hg) | ((with_reducible refine gate_dst (N := 3) rfl ?_); refine box_event ?hg (N := 3) ?hd (cs := #[.slice A1_0 l1_0.length c1_0, .slice A1_1 l1_1.length c1_1]) (t := 24) ?hr ?_; (case hd => rfl); (case hg => rfl); (case hr => first | (go_simp; done) | (go_simp; rfl)); intro gb341 hg w13 hbox hb; have BK341 := Aside0.mk (hbox); have GW341 := Aside0.mk ((by rw [hg]; exact (below_size (bS1 HB.out GE340.out)) : w.heap.size ≤ gb341)); have GE341 := Aside0.mk ((by rw [hg]; exact (below_size (bS1 HB.out GE340.out)) : w.heap.size ≤ gb341)); replace HB := Aside0.mk (below_step (bS1 HB.out GE340.out) hb); have NB340_341 := Aside0.mk (kN BK340.out hg); have NB341_340 := Aside0.mk (kM BK340.out hg); replace BK340 := Aside0.mk (kB BK340.out hb); clear hb hbox hg; have hnb14 := NB340_341.out; have hnc14 := NB341_340.out; have hcz15_0 : w13.cell? ⟨gb340, 0, none⟩ = some (.slice A0_0 l0_0.length c0_0) := (blk_cell BK340.out 0).trans rfl; have hcz15_1 : w13.cell? ⟨gb340, 1, none⟩ = some (.slice A0_1 l0_1.length c0_1) := (blk_cell BK340.out 1).trans rfl; have hfz15_0 := blk_frozen BK340.out 0; have hfz15_1 := blk_frozen BK340.out 1) | ((with_reducible refine gate_callee (f := 15) rfl ?_); refine goesL_ (some 19) rfl rfl Try.func15 (by kernel_rfl) rfl #[.agg #[.slice A0_0 l0_0.length c0_0, .slice A0_1 l0_1.length c0_1], .int .i64 1048576] rfl lU ?_; (with_reducible refine (laws_szArray.calls _ _ l0_0 _ _ l0_1 1048576 t342 _ ?side1 ?side2 ?side3 ?side4 A3.out).mono ?_); (case side1 => exact cU (Kd.C_below HR0_0.out HB.out)); (case side2 => exact HC0_0.out); (case side3 => exact cU (Kd.C_below HR0_1.out HB.out)); (case side4 => exact HC0_1.out); rintro e w16 ⟨rfl, hb⟩; refine ⟨_, rfl, ?_⟩; replace BK340 := Aside0.mk (kB BK340.out hb); replace BK341 := Aside0.mk (kB BK341.out hb); replace HB := Aside0.mk (below_step (bS2 HB.out GE340.out GE341.out) hb); (try clear hb); (try clear hb2); (try clear hk); (try clear hi); have hcz17_0 : w16.cell? ⟨gb341, 0, none⟩ = some (.slice A1_0 l1_0.length c1_0) := (blk_cell BK341.out 0).trans rfl; have hcz17_1 : w16.cell? ⟨gb341, 1, none⟩ = some (.slice A1_1 l1_1.length c1_1) := (blk_cell BK341.out 1).trans rfl; have hfz17_0 := blk_frozen BK341.out 0; have hfz17_1 := blk_frozen BK341.out 1) | ((with_reducible refine gate_callee (f := 15) rfl ?_); refine goesL_ (some 24) rfl rfl Try.func15 (by kernel_rfl) rfl #[.agg #[.slice A1_0 l1_0.length c1_0, .slice A1_1 l1_1.length c1_1], .int .i64 t342] rfl lU ?_; (with_reducible refine (laws_szArray.calls _ _ l1_0 _ _ l1_1 t342 t343 _ ?side1 ?side2 ?side3 ?side4 A10.out).mono ?_); (case side1 => exact cU (Kd.C_below HR1_0.out HB.out)); (case side2 => exact HC1_0.out); (case side3 => exact cU (Kd.C_below HR1_1.out HB.out)); (case side4 => exact HC1_1.out); rintro e w18 ⟨rfl, hb⟩; refine ⟨_, rfl, ?_⟩; replace BK340 := Aside0.mk (kB BK340.out hb); replace BK341 := Aside0.mk (kB BK341.out hb); replace HB := Aside0.mk (below_step (bS2 HB.out GE340.out GE341.out) hb); (try clear hb); (try clear hb2); (try clear hk); (try clear hi)))
   go_ret
   exact ⟨by first | rfl | (simp [errW_none, errW_some] <;> rfl) | (simp [*, errW_none, errW_some] <;> rfl), by exact bS2 HB.out GE340.out GE341.out⟩
  ·
   rw [if_neg c11] at H
   have c11b0 : decide (t343 < 0) = false := decide_eq_false c11
   clear c11
   replace H := Option.bind_eq_some_iff.mp H
   obtain ⟨⟨t344, t347⟩, A190, H⟩ := H
   replace H : ((laws_toArray.f k l1_0 l1_1).bind fun bt350 => ((spec_Join.f k t344 t347 bt350.1 bt350.2).bind fun bt356 => ((laws_toArray.f k l0_0 l0_1).bind fun bt364 => ((laws_toArray.f k l1_0 l1_1).bind fun bt371 => ((impl_Join.f k bt364.1 bt364.2 bt371.1 bt371.2).bind fun bt378 => ((laws_eqArray.f k bt378.1 bt378.2.1 bt356.1 bt356.2.1).bind fun t386 => (if t386 = true then (laws_FnExactJoin.j0 k bt356.2.2 bt378.2.2 (bt378.2.2 != bt356.2.2) l0_0 l0_1 l1_0 l1_1 bt356.1 bt356.2.1 bt364.1 bt364.2 bt371.1 bt371.2 bt378.1 bt378.2.1) else (laws_FnExactJoin.j0 k bt356.2.2 bt378.2.2 true l0_0 l0_1 l1_0 l1_1 bt356.1 bt356.2.1 bt364.1 bt364.2 bt371.1 bt371.2 bt378.1 bt378.2.1)))))))) = some r := H
   have A19 := Aside0.mk A190
   clear A190
   replace H := Option.bind_eq_some_iff.mp H
   obtain ⟨⟨t350, t353⟩, A200, H⟩ := H
   replace H : ((spec_Join.f k t344 t347 t350 t353).bind fun bt356 => ((laws_toArray.f k l0_0 l0_1).bind fun bt364 => ((laws_toArray.f k l1_0 l1_1).bind fun bt371 => ((impl_Join.f k bt364.1 bt364.2 bt371.1 bt371.2).bind fun bt378 => ((laws_eqArray.f k bt378.1 bt378.2.1 bt356.1 bt356.2.1).bind fun t386 => (if t386 = true then (laws_FnExactJoin.j0 k bt356.2.2 bt378.2.2 (bt378.2.2 != bt356.2.2) l0_0 l0_1 l1_0 l1_1 bt356.1 bt356.2.1 bt364.1 bt364.2 bt371.1 bt371.2 bt378.1 bt378.2.1) else (laws_FnExactJoin.j0 k bt356.2.2 bt378.2.2 true l0_0 l0_1 l1_0 l1_1 bt356.1 bt356.2.1 bt364.1 bt364.2 bt371.1 bt371.2 bt378.1 bt378.2.1))))))) = some r := H
   have A20 := Aside0.mk A200
   clear A200
   replace H := Option.bind_eq_some_iff.mp H
   obtain ⟨⟨t356, t359, t362⟩, A210, H⟩ := H
   replace H : ((laws_toArray.f k l0_0 l0_1).bind fun bt364 => ((laws_toArray.f k l1_0 l1_1).bind fun bt371 => ((impl_Join.f k bt364.1 bt364.2 bt371.1 bt371.2).bind fun bt378 => ((laws_eqArray.f k bt378.1 bt378.2.1 t356 t359).bind fun t386 => (if t386 = true then (laws_FnExactJoin.j0 k t362 bt378.2.2 (bt378.2.2 != t362) l0_0 l0_1 l1_0 l1_1 t356 t359 bt364.1 bt364.2 bt371.1 bt371.2 bt378.1 bt378.2.1) else (laws_FnExactJoin.j0 k t362 bt378.2.2 true l0_0 l0_1 l1_0 l1_1 t356 t359 bt364.1 bt364.2 bt371.1 bt371.2 bt378.1 bt378.2.1)))))) = some r := H
   have A21 := Aside0.mk A210
   clear A210
   replace H := Option.bind_eq_some_iff.mp H
   obtain ⟨⟨t364, t367⟩, A220, H⟩ := H
   replace H : ((laws_toArray.f k l1_0 l1_1).bind fun bt371 => ((impl_Join.f k t364 t367 bt371.1 bt371.2).bind fun bt378 => ((laws_eqArray.f k bt378.1 bt378.2.1 t356 t359).bind fun t386 => (if t386 = true then (laws_FnExactJoin.j0 k t362 bt378.2.2 (bt378.2.2 != t362) l0_0 l0_1 l1_0 l1_1 t356 t359 t364 t367 bt371.1 bt371.2 bt378.1 bt378.2.1) else (laws_FnExactJoin.j0 k t362 bt378.2.2 true l0_0 l0_1 l1_0 l1_1 t356 t359 t364 t367 bt371.1 bt371.2 bt378.1 bt378.2.1))))) = some r := H
   have A22 := Aside0.mk A220
   clear A220
   replace H := Option.bind_eq_some_iff.mp H
   obtain ⟨⟨t371, t374⟩, A230, H⟩ := H
   replace H : ((impl_Join.f k t364 t367 t371 t374).bind fun bt378 => ((laws_eqArray.f k bt378.1 bt378.2.1 t356 t359).bind fun t386 => (if t386 = true then (laws_FnExactJoin.j0 k t362 bt378.2.2 (bt378.2.2 != t362) l0_0 l0_1 l1_0 l1_1 t356 t359 t364 t367 t371 t374 bt378.1 bt378.2.1) else (laws_FnExactJoin.j0 k t362 bt378.2.2 true l0_0 l0_1 l1_0 l1_1 t356 t359 t364 t367 t371 t374 bt378.1 bt378.2.1)))) = some r := H
   have A23 := Aside0.mk A230
   clear A230
   replace H := Option.bind_eq_some_iff.mp H
   obtain ⟨⟨t378, t381, t384⟩, A240, H⟩ := H
   replace H : ((laws_eqArray.f k t378 t381 t356 t359).bind fun t386 => (if t386 = true then (laws_FnExactJoin.j0 k t362 t384 (t384 != t362) l0_0 l0_1 l1_0 l1_1 t356 t359 t364 t367 t371 t374 t378 t381) else (laws_FnExactJoin.j0 k t362 t384 true l0_0 l0_1 l1_0 l1_1 t356 t359 t364 t367 t371 t374 t378 t381))) = some r := H
   have A24 := Aside0.mk A240
   clear A240
   have HC25 := Aside0.mk H
   clear H
   go_enter Try.func12, Try.ntmps12
   try go_wp2_with (first | ((with_reducible refine gate_dst (N := 2) rfl ?_); refine box_event ?hg (N := 2) ?hd (cs := #[.slice A0_0 l0_0.length c0_0, .slice A0_1 l0_1.length c0_1]) (t := 24) ?hr ?_; (case hd => rfl); (case hg => rfl); (case hr => first | (go_simp; done) | (go_simp; rfl)); intro gb340 hg w26 hbox hb; have BK340 := Aside0.mk (hbox); have GW340 := Aside0.mk ((by rw [hg]; exact (below_size (bU HB.out)) : w.heap.size ≤ gb340)); have GE340 := Aside0.mk ((by rw [hg]; exact (below_size (bU HB.out)) : w.heap.size ≤ gb340)); replace HB := Aside0.mk (below_step (bU HB.out) hb); clear hb hbox hg) | ((with_reducible refine gate_dst (N := 3) rfl ?_); refine box_event ?hg (N := 3) ?hd (cs := #[.slice A1_0 l1_0.length c1_0, .slice A1_1 l1_1.length c1_1]) (t := 24) ?hr ?_; (case hd => rfl); (case hg => rfl); (case hr => first | (go_simp; done) | (go_simp; rfl)); intro gb341 hg w27 hbox hb; have BK341 := Aside0.mk (hbox); have GW341 := Aside0.mk ((by rw [hg]; exact (below_size (bS1 HB.out GE340.out)) : w.heap.size ≤ gb341)); have GE341 := Aside0.mk ((by rw [hg]; exact (below_size (bS1 HB.out GE340.out)) : w.heap.size ≤ gb341)); replace HB := Aside0.mk (below_step (bS1 HB.out GE340.out) hb); have NB340_341 := Aside0.mk (kN BK340.out hg); have NB341_340 := Aside0.mk (kM BK340.out hg); replace BK340 := Aside0.mk (kB BK340.out hb); clear hb hbox hg; have hnb28 := NB340_341.out; have hnc28 := NB341_340.out; have hcz29_0 : w27.cell? ⟨gb340, 0, none⟩ = some (.slice A0_0 l0_0.length c0_0) := (blk_cell BK340.out 0).trans rfl; have hcz29_1 : w27.cell? ⟨gb340, 1, none⟩ = some (.slice A0_1 l0_1.length c0_1) := (blk_cell BK340.out 1).trans rfl; have hfz29_0 := blk_frozen BK340.out 0; have hfz29_1 := blk_frozen BK340.out 1) | ((with_reducible refine gate_callee (f := 15) rfl ?_); refine goesL_ (some 19) rfl rfl Try.func15 (by kernel_rfl) rfl #[.agg #[.slice A0_0 l0_0.length c0_0, .slice A0_1 l0_1.length c0_1], .int .i64 1048576] rfl lU ?_; (with_reducible refine (laws_szArray.calls _ _ l0_0 _ _ l0_1 1048576 t342 _ ?side1 ?side2 ?side3 ?side4 A3.out).mono ?_); (case side1 => exact cU (Kd.C_below HR0_0.out HB.out)); (case side2 => exact HC0_0.out); (case side3 => exact cU (Kd.C_below HR0_1.out HB.out)); (case side4 => exact HC0_1.out); rintro e w30 ⟨rfl, hb⟩; refine ⟨_, rfl, ?_⟩; replace BK340 := Aside0.mk (kB BK340.out hb); replace BK341 := Aside0.mk (kB BK341.out hb); replace HB := Aside0.mk (below_step (bS2 HB.out GE340.out GE341.out) hb); (try clear hb); (try clear hb2); (try clear hk); (try clear hi); have hcz31_0 : w30.cell? ⟨gb341, 0, none⟩ = some (.slice A1_0 l1_0.length c1_0) := (blk_cell BK341.out 0).trans rfl; have hcz31_1 : w30.cell? ⟨gb341, 1, none⟩ = some (.slice A1_1 l1_1.length c1_1) := (blk_cell BK341.out 1).trans rfl; have hfz31_0 := blk_frozen BK341.out 0; have hfz31_1 := blk_frozen BK341.out 1) | ((with_reducible refine gate_callee (f := 15) rfl ?_); refine goesL_ (some 24) rfl rfl Try.func15 (by kernel_rfl) rfl #[.agg #[.slice A1_0 l1_0.length c1_0, .slice A1_1 l1_1.length c1_1], .int .i64 t342] rfl lU ?_; (with_reducible refine (laws_szArray.calls _ _ l1_0 _ _ l1_1 t342 t343 _ ?side1 ?side2 ?side3 ?side4 A10.out).mono ?_); (case side1 => exact cU (Kd.C_below HR1_0.out HB.out)); (case side2 => exact HC1_0.out); (case side3 => exact cU (Kd.C_below HR1_1.out HB.out)); (case side4 => exact HC1_1.out); rintro e w32 ⟨rfl, hb⟩; refine ⟨_, rfl, ?_⟩; replace BK340 := Aside0.mk (kB BK340.out hb); replace BK341 := Aside0.mk (kB BK341.out hb); replace HB := Aside0.mk (below_step (bS2 HB.out GE340.out GE341.out) hb); (try clear hb); (try clear hb2); (try clear hk); (try clear hi)))
   replace BK340 := Aside0.mk (blk_drew BK340.out)
   replace BK341 := Aside0.mk (blk_drew BK341.out)
   replace HB := Aside0.mk (below_drew1 HB.out)
   refine start_ (n := 11) (S := fun w' => w'.cell? ⟨gb340, 0, none⟩ = some (.slice A0_0 l0_0.length c0_0) ∧ w'.cell? ⟨gb340, 1, none⟩ = some (.slice A0_1 l0_1.length c0_1) ∧ w'.cell? ⟨gb341, 0, none⟩ = some (.slice A1_0 l1_0.length c1_0) ∧ w'.cell? ⟨gb341, 1, none⟩ = some (.slice A1_1 l1_1.length c1_1)) (ds := []) #[false, false, false, false, false, false, false, false, false, false, false] (by kernel_rfl) rfl rfl ⟨(blk_cell BK340.out 0).trans rfl, (blk_cell BK340.out 1).trans rfl, (blk_cell BK341.out 0).trans rfl, (blk_cell BK341.out 1).trans rfl⟩ (fun hHeld => ?_); refine with_tabW laws_FnExactJoin.tab8 laws_FnExactJoin.bits8 (fun HT_ HW_ => ?_)
   generalize w32.drew = w33 at BK340 BK341 HB hHeld ⊢
   refine take_ (i := 0) (N := some 28) (v := ?_) (a' := ?_) #[true, false, false, false, false, false, false, false, false, false, false] rfl rfl (take_ofW HT_.out HW_.out (by kernel_rfl)) (fun _ _ _ h => h) (Or.inl ⟨by rfl, ?_⟩) hHeld ?_ ?_
   rotate_left
   ·
    rintro w' ⟨s0, s1, s2, s3⟩
    go_simp
    with_reducible rfl
   rotate_left
   ·
    simp only [Act.put, List.setIfInBounds_toArray, List.set_cons_zero, List.set_cons_succ, i64_w, i32_w]
    rfl
   refine take_ (i := 2) (N := some 30) (v := ?_) (a' := ?_) #[true, false, true, false, false, false, false, false, false, false, false] rfl rfl (take_ofW HT_.out HW_.out (by kernel_rfl)) (fun _ _ _ h => h) (Or.inl ⟨by rfl, ?_⟩) hHeld ?_ ?_
   rotate_left
   ·
    rintro w' ⟨s0, s1, s2, s3⟩
    go_simp
    with_reducible rfl
   rotate_left
   ·
    simp only [Act.put, List.setIfInBounds_toArray, List.set_cons_zero, List.set_cons_succ, i64_w, i32_w]
    rfl
   refine join_ (σ := Value × Value × Value × Value × Value × Value × Nat) 2 #[true, true, true, true, true, true, true, true, true, false, false] (fun s_ => [(29, .agg #[s_.1, s_.2.1]), (31, .agg #[s_.2.2.1, s_.2.2.2.1]), (32, .tuple #[.agg #[s_.2.2.2.2.1, s_.2.2.2.2.2.1], .int .i64 t362]), (6, .pointer (some ⟨s_.2.2.2.2.2.2, 0, none⟩)), (27, .tuple #[.agg #[s_.2.2.2.2.1, s_.2.2.2.2.2.1], .int .i64 t362]), (33, .agg #[s_.2.2.2.2.1, s_.2.2.2.2.2.1]), (34, .int .i64 t362)]) (fun s_ w' => (w'.cell? ⟨gb340, 0, none⟩ = some (.slice A0_0 l0_0.length c0_0) ∧ w'.cell? ⟨gb340, 1, none⟩ = some (.slice A0_1 l0_1.length c0_1) ∧ w'.cell? ⟨gb341, 0, none⟩ = some (.slice A1_0 l1_0.length c1_0) ∧ w'.cell? ⟨gb341, 1, none⟩ = some (.slice A1_1 l1_1.length c1_1)) ∧ (Kd.R (Kd.int .i64) 3 w' w.heap.size (fun k_ => some k_ ≠ (s_.2.1 : Value).ownBlock ∧ some k_ ≠ (s_.2.2.1 : Value).ownBlock ∧ some k_ ≠ (s_.2.2.2.1 : Value).ownBlock) s_.1 t344) ∧ (Kd.R (Kd.int .i64) 3 w' w.heap.size (fun k_ => some k_ ≠ (s_.1 : Value).ownBlock ∧ some k_ ≠ (s_.2.2.1 : Value).ownBlock ∧ some k_ ≠ (s_.2.2.2.1 : Value).ownBlock) s_.2.1 t347) ∧ (Kd.R (Kd.int .i64) 3 w' w.heap.size (fun k_ => some k_ ≠ (s_.1 : Value).ownBlock ∧ some k_ ≠ (s_.2.1 : Value).ownBlock ∧ some k_ ≠ (s_.2.2.2.1 : Value).ownBlock) s_.2.2.1 t350) ∧ (Kd.R (Kd.int .i64) 3 w' w.heap.size (fun k_ => some k_ ≠ (s_.1 : Value).ownBlock ∧ some k_ ≠ (s_.2.1 : Value).ownBlock ∧ some k_ ≠ (s_.2.2.1 : Value).ownBlock) s_.2.2.2.1 t353) ∧ (Kd.V (Kd.int .i64) 3 w' w.heap.size (fun k_ => k_ ≠ gb340 ∧ k_ ≠ gb341 ∧ k_ ≠ s_.2.2.2.2.2.2) s_.2.2.2.2.1 t356) ∧ (Kd.V (Kd.int .i64) 3 w' w.heap.size (fun k_ => k_ ≠ gb340 ∧ k_ ≠ gb341 ∧ k_ ≠ s_.2.2.2.2.2.2) s_.2.2.2.2.2.1 t359) ∧ (w'.heap[gb340]? = some (.cells #[.slice A0_0 l0_0.length c0_0, .slice A0_1 l0_1.length c0_1] 24 (0, 0))) ∧ (w'.heap[gb341]? = some (.cells #[.slice A1_0 l1_0.length c1_0, .slice A1_1 l1_1.length c1_1] 24 (0, 0))) ∧ (w'.heap[s_.2.2.2.2.2.2]? = some (.cells #[.slice none 0 0, .slice none 0 0] 26 (0, 0))) ∧ (w.heap.size ≤ s_.2.2.2.2.2.2) ∧ (w.heap.size ≤ s_.2.2.2.2.2.2) ∧ (gb340 ≠ s_.2.2.2.2.2.2) ∧ (s_.2.2.2.2.2.2 ≠ gb340) ∧ (gb341 ≠ s_.2.2.2.2.2.2) ∧ (s_.2.2.2.2.2.2 ≠ gb341) ∧ (Below w.heap.size w w')) ?_ ?_
   rotate_left
   ·
    intro hCont
    refine two_ (i := 1) (j := 8) (Ni := some 29) (Nj := some 6) #[true, true, true, false, false, false, false, false, false, false, false] #[true, false, true, false, false, false, false, false, true, false, false] rfl rfl rfl rfl (two_of HT_.out (by kernel_rfl)) (by decide) (by decide) (fun K hK => ?_) (fun K hK => ?_)
    ·
     skip
     refine goes_ Try.func17 (by kernel_rfl) rfl #[.agg #[.slice A0_0 l0_0.length c0_0, .slice A0_1 l0_1.length c0_1]] (by rfl) rfl rfl lU ?_
     with_reducible refine (laws_toArray.calls k _ _ l0_0 _ _ l0_1 t344 t347 _ ?side1 ?side2 ?side3 ?side4 A19.out).mono ?_
     (case side1 => exact cU (Kd.C_below HR0_0.out HB.out))
     (case side2 => exact HC0_0.out)
     (case side3 => exact cU (Kd.C_below HR0_1.out HB.out))
     (case side4 => exact HC0_1.out)
     rintro e w34 ⟨v345, v348, rfl, ho0, ho1, hb⟩
     refine ⟨_, rfl, ?_⟩
     have HO346 := Aside0.mk (Kd.R_lower ho0 (below_size (bS2 HB.out GE340.out GE341.out)))
     have HO349 := Aside0.mk (Kd.R_lower ho1 (below_size (bS2 HB.out GE340.out GE341.out)))
     replace BK340 := Aside0.mk (kB BK340.out hb)
     replace BK341 := Aside0.mk (kB BK341.out hb)
     replace HB := Aside0.mk (below_step (bS2 HB.out GE340.out GE341.out) hb)
     (try clear hb)
     (try clear hb2)
     (try clear hk)
     (try clear hi)
     (try clear ho0)
     (try clear ho1)
     refine hK.out _ _ ⟨(blk_cell BK340.out 0).trans rfl, (blk_cell BK340.out 1).trans rfl, (blk_cell BK341.out 0).trans rfl, (blk_cell BK341.out 1).trans rfl⟩ (fun hHeld => ?_)
     clear hK K
     refine norm_ (a' := ?_) ?_ ?_
     rotate_left
     ·
      show Act.put _ (some 29) _ = _
      simp only [Act.put, List.setIfInBounds_toArray, List.set_cons_zero, List.set_cons_succ, i64_w, i32_w]
      rfl
     refine two_ (i := 3) (j := 8) (Ni := some 31) (Nj := some 6) #[true, true, true, true, false, false, false, false, false, false, false] #[true, true, true, false, false, false, false, false, true, false, false] rfl rfl rfl rfl (two_of HT_.out (by kernel_rfl)) (by decide) (by decide) (fun K hK => ?_) (fun K hK => ?_)
     ·
      skip
      refine goes_ Try.func17 (by kernel_rfl) rfl #[.agg #[.slice A1_0 l1_0.length c1_0, .slice A1_1 l1_1.length c1_1]] (by rfl) rfl rfl lU ?_
      with_reducible refine (laws_toArray.calls k _ _ l1_0 _ _ l1_1 t350 t353 _ ?side1 ?side2 ?side3 ?side4 A20.out).mono ?_
      (case side1 => exact cU (Kd.C_below HR1_0.out HB.out))
      (case side2 => exact HC1_0.out)
      (case side3 => exact cU (Kd.C_below HR1_1.out HB.out))
      (case side4 => exact HC1_1.out)
      rintro e w35 ⟨v351, v354, rfl, ho0, ho1, hb⟩
      refine ⟨_, rfl, ?_⟩
      have HO352 := Aside0.mk (Kd.R_lower (Kd.R_new' (Kd.R_new' ho0 (Kd.R_lt (RU HO346.out))) (Kd.R_lt (RU HO349.out))) (below_size (bS2 HB.out GE340.out GE341.out)))
      have HO355 := Aside0.mk (Kd.R_lower (Kd.R_new' (Kd.R_new' ho1 (Kd.R_lt (RU HO346.out))) (Kd.R_lt (RU HO349.out))) (below_size (bS2 HB.out GE340.out GE341.out)))
      replace HO346 := Aside0.mk (Kd.R_mono (Kd.R_told (Kd.R_told (Kd.R_old (RU HO346.out) hb) (Kd.R_base ho0)) (Kd.R_base ho1)) (fun _ h_ => h_.1))
      replace HO349 := Aside0.mk (Kd.R_mono (Kd.R_told (Kd.R_told (Kd.R_old (RU HO349.out) hb) (Kd.R_base ho0)) (Kd.R_base ho1)) (fun _ h_ => h_.1))
      replace BK340 := Aside0.mk (kB BK340.out hb)
      replace BK341 := Aside0.mk (kB BK341.out hb)
      replace HB := Aside0.mk (below_step (bS2 HB.out GE340.out GE341.out) hb)
      (try clear hb)
      (try clear hb2)
      (try clear hk)
      (try clear hi)
      (try clear ho0)
      (try clear ho1)
      obtain ⟨Ao36, co36, eo36⟩ := Kd.R_slice HO346.out
      (first | subst eo36 | (injection eo36 with f1_ f2_ f3_; have f4_ := f1_.symm; have f5_ := f3_.symm; clear f1_ f2_ f3_; subst f4_; subst f5_))
      obtain ⟨Ao37, co37, eo37⟩ := Kd.R_slice HO349.out
      (first | subst eo37 | (injection eo37 with f1_ f2_ f3_; have f4_ := f1_.symm; have f5_ := f3_.symm; clear f1_ f2_ f3_; subst f4_; subst f5_))
      obtain ⟨Ao38, co38, eo38⟩ := Kd.R_slice HO352.out
      (first | subst eo38 | (injection eo38 with f1_ f2_ f3_; have f4_ := f1_.symm; have f5_ := f3_.symm; clear f1_ f2_ f3_; subst f4_; subst f5_))
      obtain ⟨Ao39, co39, eo39⟩ := Kd.R_slice HO355.out
      (first | subst eo39 | (injection eo39 with f1_ f2_ f3_; have f4_ := f1_.symm; have f5_ := f3_.symm; clear f1_ f2_ f3_; subst f4_; subst f5_))
      refine hK.out _ _ ⟨(blk_cell BK340.out 0).trans rfl, (blk_cell BK340.out 1).trans rfl, (blk_cell BK341.out 0).trans rfl, (blk_cell BK341.out 1).trans rfl⟩ (fun hHeld => ?_)
      clear hK K
      refine norm_ (a' := ?_) ?_ ?_
      rotate_left
      ·
       show Act.put _ (some 31) _ = _
       simp only [Act.put, List.setIfInBounds_toArray, List.set_cons_zero, List.set_cons_succ, i64_w, i32_w]
       rfl
      refine two_ (i := 4) (j := 8) (Ni := some 32) (Nj := some 6) #[true, true, true, true, true, false, false, false, false, false, false] #[true, true, true, true, false, false, false, false, true, false, false] rfl rfl rfl rfl (two_of HT_.out (by kernel_rfl)) (by decide) (by decide) (fun K hK => ?_) (fun K hK => ?_)
      ·
       skip
       refine goes_ Try.func50 (by kernel_rfl) rfl #[.agg #[.slice Ao36 t344.length co36, .slice Ao37 t347.length co37], .agg #[.slice Ao38 t350.length co38, .slice Ao39 t353.length co39]] (by rfl) rfl rfl lU ?_
       with_reducible refine (spec_Join.calls k (fun k_ => some k_ = (.slice Ao36 t344.length co36 : Value).ownBlock) _ _ t344 (fun k_ => some k_ = (.slice Ao37 t347.length co37 : Value).ownBlock) _ _ t347 (fun k_ => some k_ = (.slice Ao38 t350.length co38 : Value).ownBlock) _ _ t350 (fun k_ => some k_ = (.slice Ao39 t353.length co39 : Value).ownBlock) _ _ t353 t356 t359 t362 _ ?side1 ?side2 ?side3 ?side4 A21.out).mono ?_
       (case side1 => exact Kd.R_V (Kd.R_tight rfl (Kd.R_types (Kd.R_types (HO346.out) BK340.out (by decide)) BK341.out (by decide))))
       (case side2 => exact Kd.R_V (Kd.R_tight rfl (Kd.R_types (Kd.R_types (HO349.out) BK340.out (by decide)) BK341.out (by decide))))
       (case side3 => exact Kd.R_V (Kd.R_tight rfl (Kd.R_types (Kd.R_types (HO352.out) BK340.out (by decide)) BK341.out (by decide))))
       (case side4 => exact Kd.R_V (Kd.R_tight rfl (Kd.R_types (Kd.R_types (HO355.out) BK340.out (by decide)) BK341.out (by decide))))
       rintro e w40 ⟨v357, v360, rfl, ho0, ho1, hb⟩
       refine ⟨_, rfl, ?_⟩
       have HO358 := Aside0.mk (Kd.V_lower (Kd.V_mono (ok' := fun k_ => k_ ≠ gb340 ∧ k_ ≠ gb341) ho0 (fun k_ hk_ => ⟨Or.elim hk_ (fun hs_ => Or.elim hs_ (fun hs_ => ((Kd.R_types (Kd.R_types (HO346.out) BK340.out (by decide)) BK341.out (by decide)).1 k_ hs_.symm).1.2) (fun hs_ => Or.elim hs_ (fun hs_ => ((Kd.R_types (Kd.R_types (HO349.out) BK340.out (by decide)) BK341.out (by decide)).1 k_ hs_.symm).1.2) (fun hs_ => Or.elim hs_ (fun hs_ => ((Kd.R_types (Kd.R_types (HO352.out) BK340.out (by decide)) BK341.out (by decide)).1 k_ hs_.symm).1.2) (fun hs_ => ((Kd.R_types (Kd.R_types (HO355.out) BK340.out (by decide)) BK341.out (by decide)).1 k_ hs_.symm).1.2)))) (fun hn_ => (Kd.freshB (g := gb340) (o := .cells #[.slice A0_0 l0_0.length c0_0, .slice A0_1 l0_1.length c0_1] 24 (0, 0)) (kU BK340.out) k_ hn_)), Or.elim hk_ (fun hs_ => Or.elim hs_ (fun hs_ => ((Kd.R_types (Kd.R_types (HO346.out) BK340.out (by decide)) BK341.out (by decide)).1 k_ hs_.symm).2) (fun hs_ => Or.elim hs_ (fun hs_ => ((Kd.R_types (Kd.R_types (HO349.out) BK340.out (by decide)) BK341.out (by decide)).1 k_ hs_.symm).2) (fun hs_ => Or.elim hs_ (fun hs_ => ((Kd.R_types (Kd.R_types (HO352.out) BK340.out (by decide)) BK341.out (by decide)).1 k_ hs_.symm).2) (fun hs_ => ((Kd.R_types (Kd.R_types (HO355.out) BK340.out (by decide)) BK341.out (by decide)).1 k_ hs_.symm).2)))) (fun hn_ => (Kd.freshB (g := gb341) (o := .cells #[.slice A1_0 l1_0.length c1_0, .slice A1_1 l1_1.length c1_1] 24 (0, 0)) (kU BK341.out) k_ hn_))⟩)) (below_size (bS2 HB.out GE340.out GE341.out)))
       have HO361 := Aside0.mk (Kd.V_lower (Kd.V_mono (ok' := fun k_ => k_ ≠ gb340 ∧ k_ ≠ gb341) ho1 (fun k_ hk_ => ⟨Or.elim hk_ (fun hs_ => Or.elim hs_ (fun hs_ => ((Kd.R_types (Kd.R_types (HO346.out) BK340.out (by decide)) BK341.out (by decide)).1 k_ hs_.symm).1.2) (fun hs_ => Or.elim hs_ (fun hs_ => ((Kd.R_types (Kd.R_types (HO349.out) BK340.out (by decide)) BK341.out (by decide)).1 k_ hs_.symm).1.2) (fun hs_ => Or.elim hs_ (fun hs_ => ((Kd.R_types (Kd.R_types (HO352.out) BK340.out (by decide)) BK341.out (by decide)).1 k_ hs_.symm).1.2) (fun hs_ => ((Kd.R_types (Kd.R_types (HO355.out) BK340.out (by decide)) BK341.out (by decide)).1 k_ hs_.symm).1.2)))) (fun hn_ => (Kd.freshB (g := gb340) (o := .cells #[.slice A0_0 l0_0.length c0_0, .slice A0_1 l0_1.length c0_1] 24 (0, 0)) (kU BK340.out) k_ hn_)), Or.elim hk_ (fun hs_ => Or.elim hs_ (fun hs_ => ((Kd.R_types (Kd.R_types (HO346.out) BK340.out (by decide)) BK341.out (by decide)).1 k_ hs_.symm).2) (fun hs_ => Or.elim hs_ (fun hs_ => ((Kd.R_types (Kd.R_types (HO349.out) BK340.out (by decide)) BK341.out (by decide)).1 k_ hs_.symm).2) (fun hs_ => Or.elim hs_ (fun hs_ => ((Kd.R_types (Kd.R_types (HO352.out) BK340.out (by decide)) BK341.out (by decide)).1 k_ hs_.symm).2) (fun hs_ => ((Kd.R_types (Kd.R_types (HO355.out) BK340.out (by decide)) BK341.out (by decide)).1 k_ hs_.symm).2)))) (fun hn_ => (Kd.freshB (g := gb341) (o := .cells #[.slice A1_0 l1_0.length c1_0, .slice A1_1 l1_1.length c1_1] 24 (0, 0)) (kU BK341.out) k_ hn_))⟩)) (below_size (bS2 HB.out GE340.out GE341.out)))
       replace HO346 := Aside0.mk (Kd.R_below (RU HO346.out) hb)
       replace HO349 := Aside0.mk (Kd.R_below (RU HO349.out) hb)
       replace HO352 := Aside0.mk (Kd.R_below (RU HO352.out) hb)
       replace HO355 := Aside0.mk (Kd.R_below (RU HO355.out) hb)
       replace BK340 := Aside0.mk (kB BK340.out hb)
       replace BK341 := Aside0.mk (kB BK341.out hb)
       replace HB := Aside0.mk (below_step (bS2 HB.out GE340.out GE341.out) hb)
       (try clear hb)
       (try clear hb2)
       (try clear hk)
       (try clear hi)
       (try clear ho0)
       (try clear ho1)
       refine hK.out _ _ ⟨(blk_cell BK340.out 0).trans rfl, (blk_cell BK340.out 1).trans rfl, (blk_cell BK341.out 0).trans rfl, (blk_cell BK341.out 1).trans rfl⟩ (fun hHeld => ?_)
       clear hK K
       refine norm_ (a' := ?_) ?_ ?_
       rotate_left
       ·
        show Act.put _ (some 32) _ = _
        simp only [Act.put, List.setIfInBounds_toArray, List.set_cons_zero, List.set_cons_succ, i64_w, i32_w]
        rfl
       refine pure_ (i := 5) (N := some 27) (v := ?_) (a' := ?_) #[true, true, true, true, true, true, false, false, false, false, false] rfl rfl (any_of HT_.out (by kernel_rfl)) (fun _ _ _ h => h) (Or.inl ⟨by rfl, ?_⟩) ?_ ?_
       rotate_left
       ·
        intro w'
        go_simp
        with_reducible rfl
       rotate_left
       ·
        simp only [Act.put, List.setIfInBounds_toArray, List.set_cons_zero, List.set_cons_succ, i64_w, i32_w]
        rfl
       refine pure_ (i := 6) (N := some 33) (v := ?_) (a' := ?_) #[true, true, true, true, true, true, true, false, false, false, false] rfl rfl (any_of HT_.out (by kernel_rfl)) (fun _ _ _ h => h) (Or.inl ⟨by rfl, ?_⟩) ?_ ?_
       rotate_left
       ·
        intro w'
        go_simp
        with_reducible rfl
       rotate_left
       ·
        simp only [Act.put, List.setIfInBounds_toArray, List.set_cons_zero, List.set_cons_succ, i64_w, i32_w]
        rfl
       refine pure_ (i := 7) (N := some 34) (v := ?_) (a' := ?_) #[true, true, true, true, true, true, true, true, false, false, false] rfl rfl (any_of HT_.out (by kernel_rfl)) (fun _ _ _ h => h) (Or.inl ⟨by rfl, ?_⟩) ?_ ?_
       rotate_left
       ·
        intro w'
        go_simp
        with_reducible rfl
       rotate_left
       ·
        simp only [Act.put, List.setIfInBounds_toArray, List.set_cons_zero, List.set_cons_succ, i64_w, i32_w]
        rfl
       refine one_ (i := 8) (N := some 6) #[true, true, true, true, true, true, true, true, true, false, false] rfl rfl (one_of HT_.out (by kernel_rfl)) (by decide) (fun K hK => ?_)
       refine box_step ?hg (N := 6) ?hd (cs := #[.slice none 0 0, .slice none 0 0]) (t := 26) ?hr ?_; (case hd => rfl); (case hg => rfl); (case hr => first | (go_simp; done) | (go_simp; rfl))
       intro gb363 hg w41 hbox hb
       replace HO346 := Aside0.mk (Kd.R_below (RU HO346.out) hb)
       replace HO349 := Aside0.mk (Kd.R_below (RU HO349.out) hb)
       replace HO352 := Aside0.mk (Kd.R_below (RU HO352.out) hb)
       replace HO355 := Aside0.mk (Kd.R_below (RU HO355.out) hb)
       replace HO358 := Aside0.mk (Kd.V_below (Kd.V_elderB (VU HO358.out) gb363 (Nat.le_of_eq hg.symm)) hb)
       replace HO361 := Aside0.mk (Kd.V_below (Kd.V_elderB (VU HO361.out) gb363 (Nat.le_of_eq hg.symm)) hb)
       have BK363 := Aside0.mk (hbox)
       have GW363 := Aside0.mk ((by rw [hg]; exact (below_size (bS2 HB.out GE340.out GE341.out)) : w.heap.size ≤ gb363))
       have GE363 := Aside0.mk ((by rw [hg]; exact (below_size (bS2 HB.out GE340.out GE341.out)) : w.heap.size ≤ gb363))
       replace HB := Aside0.mk (below_step (bS2 HB.out GE340.out GE341.out) hb)
       have NB340_363 := Aside0.mk (kN BK340.out hg)
       have NB363_340 := Aside0.mk (kM BK340.out hg)
       replace BK340 := Aside0.mk (kB BK340.out hb)
       have NB341_363 := Aside0.mk (kN BK341.out hg)
       have NB363_341 := Aside0.mk (kM BK341.out hg)
       replace BK341 := Aside0.mk (kB BK341.out hb)
       clear hb hbox hg
       refine hK.out _ _ ⟨(blk_cell BK340.out 0).trans rfl, (blk_cell BK340.out 1).trans rfl, (blk_cell BK341.out 0).trans rfl, (blk_cell BK341.out 1).trans rfl⟩ (fun hHeld => ?_)
       clear hK K
       refine norm_ (a' := ?_) ?_ ?_
       rotate_left
       ·
        show Act.put _ (some 6) _ = _
        simp only [Act.put, List.setIfInBounds_toArray, List.set_cons_zero, List.set_cons_succ, i64_w, i32_w]
        rfl
       exact norm_ (by simp only [putAll, Act.put, List.setIfInBounds_toArray, List.set_cons_zero, List.set_cons_succ]) (hCont (.slice Ao36 t344.length co36, .slice Ao37 t347.length co37, .slice Ao38 t350.length co38, .slice Ao39 t353.length co39, v357, v360, gb363) _ ⟨hHeld, (by refine RU ?_; exact Kd.R_mono HO346.out (fun _ hk => ⟨hk.1.1, ⟨hk.1.2, hk.2⟩⟩)), (by refine RU ?_; exact Kd.R_mono HO349.out (fun _ hk => ⟨hk.1.1, ⟨hk.1.2, hk.2⟩⟩)), (by refine RU ?_; exact Kd.R_mono HO352.out (fun _ hk => ⟨hk.1.2, ⟨hk.2, hk.1.1⟩⟩)), (by refine RU ?_; exact Kd.R_mono HO355.out (fun _ hk => ⟨hk.1.2, ⟨hk.2, hk.1.1⟩⟩)), (by refine VU ?_; exact Kd.V_mono HO358.out (fun _ hk => ⟨hk.1.1, ⟨hk.1.2, hk.2⟩⟩)), (by refine VU ?_; exact Kd.V_mono HO361.out (fun _ hk => ⟨hk.1.1, ⟨hk.1.2, hk.2⟩⟩)), (kU BK340.out), (kU BK341.out), (kU BK363.out), GW363.out, GE363.out, NB340_363.out, NB363_340.out, NB341_363.out, NB363_341.out, (bS3 HB.out GE340.out GE341.out GE363.out)⟩)
      ·
       skip
       refine box_step ?hg (N := 6) ?hd (cs := #[.slice none 0 0, .slice none 0 0]) (t := 26) ?hr ?_; (case hd => rfl); (case hg => rfl); (case hr => first | (go_simp; done) | (go_simp; rfl))
       intro gb363 hg w36 hbox hb
       replace HO346 := Aside0.mk (Kd.R_below (RU HO346.out) hb)
       replace HO349 := Aside0.mk (Kd.R_below (RU HO349.out) hb)
       replace HO352 := Aside0.mk (Kd.R_below (RU HO352.out) hb)
       replace HO355 := Aside0.mk (Kd.R_below (RU HO355.out) hb)
       have BK363 := Aside0.mk (hbox)
       have GW363 := Aside0.mk ((by rw [hg]; exact (below_size (bS2 HB.out GE340.out GE341.out)) : w.heap.size ≤ gb363))
       have GE363 := Aside0.mk ((by rw [hg]; exact (below_size (bS2 HB.out GE340.out GE341.out)) : w.heap.size ≤ gb363))
       replace HB := Aside0.mk (below_step (bS2 HB.out GE340.out GE341.out) hb)
       have NB340_363 := Aside0.mk (kN BK340.out hg)
       have NB363_340 := Aside0.mk (kM BK340.out hg)
       replace BK340 := Aside0.mk (kB BK340.out hb)
       have NB341_363 := Aside0.mk (kN BK341.out hg)
       have NB363_341 := Aside0.mk (kM BK341.out hg)
       replace BK341 := Aside0.mk (kB BK341.out hb)
       clear hb hbox hg
       obtain ⟨Ao37, co37, eo37⟩ := Kd.R_slice HO346.out
       (first | subst eo37 | (injection eo37 with f1_ f2_ f3_; have f4_ := f1_.symm; have f5_ := f3_.symm; clear f1_ f2_ f3_; subst f4_; subst f5_))
       obtain ⟨Ao38, co38, eo38⟩ := Kd.R_slice HO349.out
       (first | subst eo38 | (injection eo38 with f1_ f2_ f3_; have f4_ := f1_.symm; have f5_ := f3_.symm; clear f1_ f2_ f3_; subst f4_; subst f5_))
       obtain ⟨Ao39, co39, eo39⟩ := Kd.R_slice HO352.out
       (first | subst eo39 | (injection eo39 with f1_ f2_ f3_; have f4_ := f1_.symm; have f5_ := f3_.symm; clear f1_ f2_ f3_; subst f4_; subst f5_))
       obtain ⟨Ao40, co40, eo40⟩ := Kd.R_slice HO355.out
       (first | subst eo40 | (injection eo40 with f1_ f2_ f3_; have f4_ := f1_.symm; have f5_ := f3_.symm; clear f1_ f2_ f3_; subst f4_; subst f5_))
       refine hK.out _ _ ⟨(blk_cell BK340.out 0).trans rfl, (blk_cell BK340.out 1).trans rfl, (blk_cell BK341.out 0).trans rfl, (blk_cell BK341.out 1).trans rfl⟩ (fun hHeld => ?_)
       clear hK K
       refine norm_ (a' := ?_) ?_ ?_
       rotate_left
       ·
        show Act.put _ (some 6) _ = _
        simp only [Act.put, List.setIfInBounds_toArray, List.set_cons_zero, List.set_cons_succ, i64_w, i32_w]
        rfl
       refine one_ (i := 4) (N := some 32) #[true, true, true, true, true, false, false, false, true, false, false] rfl rfl (one_of HT_.out (by kernel_rfl)) (by decide) (fun K hK => ?_)
       refine goes_ Try.func50 (by kernel_rfl) rfl #[.agg #[.slice Ao37 t344.length co37, .slice Ao38 t347.length co38], .agg #[.slice Ao39 t350.length co39, .slice Ao40 t353.length co40]] (by rfl) rfl rfl lU ?_
       with_reducible refine (spec_Join.calls k (fun k_ => some k_ = (.slice Ao37 t344.length co37 : Value).ownBlock) _ _ t344 (fun k_ => some k_ = (.slice Ao38 t347.length co38 : Value).ownBlock) _ _ t347 (fun k_ => some k_ = (.slice Ao39 t350.length co39 : Value).ownBlock) _ _ t350 (fun k_ => some k_ = (.slice Ao40 t353.length co40 : Value).ownBlock) _ _ t353 t356 t359 t362 _ ?side1 ?side2 ?side3 ?side4 A21.out).mono ?_
       (case side1 => exact Kd.R_V (Kd.R_tight rfl (Kd.R_types (Kd.R_types (Kd.R_types (HO346.out) BK340.out (by decide)) BK341.out (by decide)) BK363.out (by decide))))
       (case side2 => exact Kd.R_V (Kd.R_tight rfl (Kd.R_types (Kd.R_types (Kd.R_types (HO349.out) BK340.out (by decide)) BK341.out (by decide)) BK363.out (by decide))))
       (case side3 => exact Kd.R_V (Kd.R_tight rfl (Kd.R_types (Kd.R_types (Kd.R_types (HO352.out) BK340.out (by decide)) BK341.out (by decide)) BK363.out (by decide))))
       (case side4 => exact Kd.R_V (Kd.R_tight rfl (Kd.R_types (Kd.R_types (Kd.R_types (HO355.out) BK340.out (by decide)) BK341.out (by decide)) BK363.out (by decide))))
       rintro e w41 ⟨v357, v360, rfl, ho0, ho1, hb⟩
       refine ⟨_, rfl, ?_⟩
       have HO358 := Aside0.mk (Kd.V_lower (Kd.V_mono (ok' := fun k_ => k_ ≠ gb340 ∧ k_ ≠ gb341 ∧ k_ ≠ gb363) ho0 (fun k_ hk_ => ⟨Or.elim hk_ (fun hs_ => Or.elim hs_ (fun hs_ => ((Kd.R_types (Kd.R_types (Kd.R_types (HO346.out) BK340.out (by decide)) BK341.out (by decide)) BK363.out (by decide)).1 k_ hs_.symm).1.1.2) (fun hs_ => Or.elim hs_ (fun hs_ => ((Kd.R_types (Kd.R_types (Kd.R_types (HO349.out) BK340.out (by decide)) BK341.out (by decide)) BK363.out (by decide)).1 k_ hs_.symm).1.1.2) (fun hs_ => Or.elim hs_ (fun hs_ => ((Kd.R_types (Kd.R_types (Kd.R_types (HO352.out) BK340.out (by decide)) BK341.out (by decide)) BK363.out (by decide)).1 k_ hs_.symm).1.1.2) (fun hs_ => ((Kd.R_types (Kd.R_types (Kd.R_types (HO355.out) BK340.out (by decide)) BK341.out (by decide)) BK363.out (by decide)).1 k_ hs_.symm).1.1.2)))) (fun hn_ => (Kd.freshB (g := gb340) (o := .cells #[.slice A0_0 l0_0.length c0_0, .slice A0_1 l0_1.length c0_1] 24 (0, 0)) (kU BK340.out) k_ hn_)), Or.elim hk_ (fun hs_ => Or.elim hs_ (fun hs_ => ((Kd.R_types (Kd.R_types (Kd.R_types (HO346.out) BK340.out (by decide)) BK341.out (by decide)) BK363.out (by decide)).1 k_ hs_.symm).1.2) (fun hs_ => Or.elim hs_ (fun hs_ => ((Kd.R_types (Kd.R_types (Kd.R_types (HO349.out) BK340.out (by decide)) BK341.out (by decide)) BK363.out (by decide)).1 k_ hs_.symm).1.2) (fun hs_ => Or.elim hs_ (fun hs_ => ((Kd.R_types (Kd.R_types (Kd.R_types (HO352.out) BK340.out (by decide)) BK341.out (by decide)) BK363.out (by decide)).1 k_ hs_.symm).1.2) (fun hs_ => ((Kd.R_types (Kd.R_types (Kd.R_types (HO355.out) BK340.out (by decide)) BK341.out (by decide)) BK363.out (by decide)).1 k_ hs_.symm).1.2)))) (fun hn_ => (Kd.freshB (g := gb341) (o := .cells #[.slice A1_0 l1_0.length c1_0, .slice A1_1 l1_1.length c1_1] 24 (0, 0)) (kU BK341.out) k_ hn_)), Or.elim hk_ (fun hs_ => Or.elim hs_ (fun hs_ => ((Kd.R_types (Kd.R_types (Kd.R_types (HO346.out) BK340.out (by decide)) BK341.out (by decide)) BK363.out (by decide)).1 k_ hs_.symm).2) (fun hs_ => Or.elim hs_ (fun hs_ => ((Kd.R_types (Kd.R_types (Kd.R_types (HO349.out) BK340.out (by decide)) BK341.out (by decide)) BK363.out (by decide)).1 k_ hs_.symm).2) (fun hs_ => Or.elim hs_ (fun hs_ => ((Kd.R_types (Kd.R_types (Kd.R_types (HO352.out) BK340.out (by decide)) BK341.out (by decide)) BK363.out (by decide)).1 k_ hs_.symm).2) (fun hs_ => ((Kd.R_types (Kd.R_types (Kd.R_types (HO355.out) BK340.out (by decide)) BK341.out (by decide)) BK363.out (by decide)).1 k_ hs_.symm).2)))) (fun hn_ => (Kd.freshB (g := gb363) (o := .cells #[.slice none 0 0, .slice none 0 0] 26 (0, 0)) (kU BK363.out) k_ hn_))⟩)) (below_size (bS3 HB.out GE340.out GE341.out GE363.out)))
       have HO361 := Aside0.mk (Kd.V_lower (Kd.V_mono (ok' := fun k_ => k_ ≠ gb340 ∧ k_ ≠ gb341 ∧ k_ ≠ gb363) ho1 (fun k_ hk_ => ⟨Or.elim hk_ (fun hs_ => Or.elim hs_ (fun hs_ => ((Kd.R_types (Kd.R_types (Kd.R_types (HO346.out) BK340.out (by decide)) BK341.out (by decide)) BK363.out (by decide)).1 k_ hs_.symm).1.1.2) (fun hs_ => Or.elim hs_ (fun hs_ => ((Kd.R_types (Kd.R_types (Kd.R_types (HO349.out) BK340.out (by decide)) BK341.out (by decide)) BK363.out (by decide)).1 k_ hs_.symm).1.1.2) (fun hs_ => Or.elim hs_ (fun hs_ => ((Kd.R_types (Kd.R_types (Kd.R_types (HO352.out) BK340.out (by decide)) BK341.out (by decide)) BK363.out (by decide)).1 k_ hs_.symm).1.1.2) (fun hs_ => ((Kd.R_types (Kd.R_types (Kd.R_types (HO355.out) BK340.out (by decide)) BK341.out (by decide)) BK363.out (by decide)).1 k_ hs_.symm).1.1.2)))) (fun hn_ => (Kd.freshB (g := gb340) (o := .cells #[.slice A0_0 l0_0.length c0_0, .slice A0_1 l0_1.length c0_1] 24 (0, 0)) (kU BK340.out) k_ hn_)), Or.elim hk_ (fun hs_ => Or.elim hs_ (fun hs_ => ((Kd.R_types (Kd.R_types (Kd.R_types (HO346.out) BK340.out (by decide)) BK341.out (by decide)) BK363.out (by decide)).1 k_ hs_.symm).1.2) (fun hs_ => Or.elim hs_ (fun hs_ => ((Kd.R_types (Kd.R_types (Kd.R_types (HO349.out) BK340.out (by decide)) BK341.out (by decide)) BK363.out (by decide)).1 k_ hs_.symm).1.2) (fun hs_ => Or.elim hs_ (fun hs_ => ((Kd.R_types (Kd.R_types (Kd.R_types (HO352.out) BK340.out (by decide)) BK341.out (by decide)) BK363.out (by decide)).1 k_ hs_.symm).1.2) (fun hs_ => ((Kd.R_types (Kd.R_types (Kd.R_types (HO355.out) BK340.out (by decide)) BK341.out (by decide)) BK363.out (by decide)).1 k_ hs_.symm).1.2)))) (fun hn_ => (Kd.freshB (g := gb341) (o := .cells #[.slice A1_0 l1_0.length c1_0, .slice A1_1 l1_1.length c1_1] 24 (0, 0)) (kU BK341.out) k_ hn_)), Or.elim hk_ (fun hs_ => Or.elim hs_ (fun hs_ => ((Kd.R_types (Kd.R_types (Kd.R_types (HO346.out) BK340.out (by decide)) BK341.out (by decide)) BK363.out (by decide)).1 k_ hs_.symm).2) (fun hs_ => Or.elim hs_ (fun hs_ => ((Kd.R_types (Kd.R_types (Kd.R_types (HO349.out) BK340.out (by decide)) BK341.out (by decide)) BK363.out (by decide)).1 k_ hs_.symm).2) (fun hs_ => Or.elim hs_ (fun hs_ => ((Kd.R_types (Kd.R_types (Kd.R_types (HO352.out) BK340.out (by decide)) BK341.out (by decide)) BK363.out (by decide)).1 k_ hs_.symm).2) (fun hs_ => ((Kd.R_types (Kd.R_types (Kd.R_types (HO355.out) BK340.out (by decide)) BK341.out (by decide)) BK363.out (by decide)).1 k_ hs_.symm).2)))) (fun hn_ => (Kd.freshB (g := gb363) (o := .cells #[.slice none 0 0, .slice none 0 0] 26 (0, 0)) (kU BK363.out) k_ hn_))⟩)) (below_size (bS3 HB.out GE340.out GE341.out GE363.out)))
       replace HO346 := Aside0.mk (Kd.R_below (RU HO346.out) hb)
       replace HO349 := Aside0.mk (Kd.R_below (RU HO349.out) hb)
       replace HO352 := Aside0.mk (Kd.R_below (RU HO352.out) hb)
       replace HO355 := Aside0.mk (Kd.R_below (RU HO355.out) hb)
       replace BK340 := Aside0.mk (kB BK340.out hb)
       replace BK341 := Aside0.mk (kB BK341.out hb)
       replace BK363 := Aside0.mk (kB BK363.out hb)
       replace HB := Aside0.mk (below_step (bS3 HB.out GE340.out GE341.out GE363.out) hb)
       (try clear hb)
       (try clear hb2)
       (try clear hk)
       (try clear hi)
       (try clear ho0)
       (try clear ho1)
       refine hK.out _ _ ⟨(blk_cell BK340.out 0).trans rfl, (blk_cell BK340.out 1).trans rfl, (blk_cell BK341.out 0).trans rfl, (blk_cell BK341.out 1).trans rfl⟩ (fun hHeld => ?_)
       clear hK K
       refine norm_ (a' := ?_) ?_ ?_
       rotate_left
       ·
        show Act.put _ (some 32) _ = _
        simp only [Act.put, List.setIfInBounds_toArray, List.set_cons_zero, List.set_cons_succ, i64_w, i32_w]
        rfl
       refine pure_ (i := 5) (N := some 27) (v := ?_) (a' := ?_) #[true, true, true, true, true, true, false, false, true, false, false] rfl rfl (any_of HT_.out (by kernel_rfl)) (fun _ _ _ h => h) (Or.inl ⟨by rfl, ?_⟩) ?_ ?_
       rotate_left
       ·
        intro w'
        go_simp
        with_reducible rfl
       rotate_left
       ·
        simp only [Act.put, List.setIfInBounds_toArray, List.set_cons_zero, List.set_cons_succ, i64_w, i32_w]
        rfl
       refine pure_ (i := 6) (N := some 33) (v := ?_) (a' := ?_) #[true, true, true, true, true, true, true, false, true, false, false] rfl rfl (any_of HT_.out (by kernel_rfl)) (fun _ _ _ h => h) (Or.inl ⟨by rfl, ?_⟩) ?_ ?_
       rotate_left
       ·
        intro w'
        go_simp
        with_reducible rfl
       rotate_left
       ·
        simp only [Act.put, List.setIfInBounds_toArray, List.set_cons_zero, List.set_cons_succ, i64_w, i32_w]
        rfl
       refine pure_ (i := 7) (N := some 34) (v := ?_) (a' := ?_) #[true, true, true, true, true, true, true, true, true, false, false] rfl rfl (any_of HT_.out (by kernel_rfl)) (fun _ _ _ h => h) (Or.inl ⟨by rfl, ?_⟩) ?_ ?_
       rotate_left
       ·
        intro w'
        go_simp
        with_reducible rfl
       rotate_left
       ·
        simp only [Act.put, List.setIfInBounds_toArray, List.set_cons_zero, List.set_cons_succ, i64_w, i32_w]
        rfl
       exact norm_ (by simp only [putAll, Act.put, List.setIfInBounds_toArray, List.set_cons_zero, List.set_cons_succ]) (hCont (.slice Ao37 t344.length co37, .slice Ao38 t347.length co38, .slice Ao39 t350.length co39, .slice Ao40 t353.length co40, v357, v360, gb363) _ ⟨hHeld, (by refine RU ?_; exact Kd.R_mono HO346.out (fun _ hk => ⟨hk.1.1, ⟨hk.1.2, hk.2⟩⟩)), (by refine RU ?_; exact Kd.R_mono HO349.out (fun _ hk => ⟨hk.1.1, ⟨hk.1.2, hk.2⟩⟩)), (by refine RU ?_; exact Kd.R_mono HO352.out (fun _ hk => ⟨hk.1.2, ⟨hk.2, hk.1.1⟩⟩)), (by refine RU ?_; exact Kd.R_mono HO355.out (fun _ hk => ⟨hk.1.2, ⟨hk.2, hk.1.1⟩⟩)), (VU HO358.out), (VU HO361.out), (kU BK340.out), (kU BK341.out), (kU BK363.out), GW363.out, GE363.out, NB340_363.out, NB363_340.out, NB341_363.out, NB363_341.out, (bS3 HB.out GE340.out GE341.out GE363.out)⟩)
     ·
      skip
      refine box_step ?hg (N := 6) ?hd (cs := #[.slice none 0 0, .slice none 0 0]) (t := 26) ?hr ?_; (case hd => rfl); (case hg => rfl); (case hr => first | (go_simp; done) | (go_simp; rfl))
      intro gb363 hg w35 hbox hb
      replace HO346 := Aside0.mk (Kd.R_below (RU HO346.out) hb)
      replace HO349 := Aside0.mk (Kd.R_below (RU HO349.out) hb)
      have BK363 := Aside0.mk (hbox)
      have GW363 := Aside0.mk ((by rw [hg]; exact (below_size (bS2 HB.out GE340.out GE341.out)) : w.heap.size ≤ gb363))
      have GE363 := Aside0.mk ((by rw [hg]; exact (below_size (bS2 HB.out GE340.out GE341.out)) : w.heap.size ≤ gb363))
      replace HB := Aside0.mk (below_step (bS2 HB.out GE340.out GE341.out) hb)
      have NB340_363 := Aside0.mk (kN BK340.out hg)
      have NB363_340 := Aside0.mk (kM BK340.out hg)
      replace BK340 := Aside0.mk (kB BK340.out hb)
      have NB341_363 := Aside0.mk (kN BK341.out hg)
      have NB363_341 := Aside0.mk (kM BK341.out hg)
      replace BK341 := Aside0.mk (kB BK341.out hb)
      clear hb hbox hg
      refine hK.out _ _ ⟨(blk_cell BK340.out 0).trans rfl, (blk_cell BK340.out 1).trans rfl, (blk_cell BK341.out 0).trans rfl, (blk_cell BK341.out 1).trans rfl⟩ (fun hHeld => ?_)
      clear hK K
      refine norm_ (a' := ?_) ?_ ?_
      rotate_left
      ·
       show Act.put _ (some 6) _ = _
       simp only [Act.put, List.setIfInBounds_toArray, List.set_cons_zero, List.set_cons_succ, i64_w, i32_w]
       rfl
      refine one_ (i := 3) (N := some 31) #[true, true, true, true, false, false, false, false, true, false, false] rfl rfl (one_of HT_.out (by kernel_rfl)) (by decide) (fun K hK => ?_)
      refine goes_ Try.func17 (by kernel_rfl) rfl #[.agg #[.slice A1_0 l1_0.length c1_0, .slice A1_1 l1_1.length c1_1]] (by rfl) rfl rfl lU ?_
      with_reducible refine (laws_toArray.calls k _ _ l1_0 _ _ l1_1 t350 t353 _ ?side1 ?side2 ?side3 ?side4 A20.out).mono ?_
      (case side1 => exact cU (Kd.C_below HR1_0.out HB.out))
      (case side2 => exact HC1_0.out)
      (case side3 => exact cU (Kd.C_below HR1_1.out HB.out))
      (case side4 => exact HC1_1.out)
      rintro e w36 ⟨v351, v354, rfl, ho0, ho1, hb⟩
      refine ⟨_, rfl, ?_⟩
      have HO352 := Aside0.mk (Kd.R_lower (Kd.R_new' (Kd.R_new' ho0 (Kd.R_lt (RU HO346.out))) (Kd.R_lt (RU HO349.out))) (below_size (bS3 HB.out GE340.out GE341.out GE363.out)))
      have HO355 := Aside0.mk (Kd.R_lower (Kd.R_new' (Kd.R_new' ho1 (Kd.R_lt (RU HO346.out))) (Kd.R_lt (RU HO349.out))) (below_size (bS3 HB.out GE340.out GE341.out GE363.out)))
      replace HO346 := Aside0.mk (Kd.R_mono (Kd.R_told (Kd.R_told (Kd.R_old (RU HO346.out) hb) (Kd.R_base ho0)) (Kd.R_base ho1)) (fun _ h_ => h_.1))
      replace HO349 := Aside0.mk (Kd.R_mono (Kd.R_told (Kd.R_told (Kd.R_old (RU HO349.out) hb) (Kd.R_base ho0)) (Kd.R_base ho1)) (fun _ h_ => h_.1))
      replace BK340 := Aside0.mk (kB BK340.out hb)
      replace BK341 := Aside0.mk (kB BK341.out hb)
      replace BK363 := Aside0.mk (kB BK363.out hb)
      replace HB := Aside0.mk (below_step (bS3 HB.out GE340.out GE341.out GE363.out) hb)
      (try clear hb)
      (try clear hb2)
      (try clear hk)
      (try clear hi)
      (try clear ho0)
      (try clear ho1)
      obtain ⟨Ao37, co37, eo37⟩ := Kd.R_slice HO346.out
      (first | subst eo37 | (injection eo37 with f1_ f2_ f3_; have f4_ := f1_.symm; have f5_ := f3_.symm; clear f1_ f2_ f3_; subst f4_; subst f5_))
      obtain ⟨Ao38, co38, eo38⟩ := Kd.R_slice HO349.out
      (first | subst eo38 | (injection eo38 with f1_ f2_ f3_; have f4_ := f1_.symm; have f5_ := f3_.symm; clear f1_ f2_ f3_; subst f4_; subst f5_))
      obtain ⟨Ao39, co39, eo39⟩ := Kd.R_slice HO352.out
      (first | subst eo39 | (injection eo39 with f1_ f2_ f3_; have f4_ := f1_.symm; have f5_ := f3_.symm; clear f1_ f2_ f3_; subst f4_; subst f5_))
      obtain ⟨Ao40, co40, eo40⟩ := Kd.R_slice HO355.out
      (first | subst eo40 | (injection eo40 with f1_ f2_ f3_; have f4_ := f1_.symm; have f5_ := f3_.symm; clear f1_ f2_ f3_; subst f4_; subst f5_))
      refine hK.out _ _ ⟨(blk_cell BK340.out 0).trans rfl, (blk_cell BK340.out 1).trans rfl, (blk_cell BK341.out 0).trans rfl, (blk_cell BK341.out 1).trans rfl⟩ (fun hHeld => ?_)
      clear hK K
      refine norm_ (a' := ?_) ?_ ?_
      rotate_left
      ·
       show Act.put _ (some 31) _ = _
       simp only [Act.put, List.setIfInBounds_toArray, List.set_cons_zero, List.set_cons_succ, i64_w, i32_w]
       rfl
      refine one_ (i := 4) (N := some 32) #[true, true, true, true, true, false, false, false, true, false, false] rfl rfl (one_of HT_.out (by kernel_rfl)) (by decide) (fun K hK => ?_)
      refine goes_ Try.func50 (by kernel_rfl) rfl #[.agg #[.slice Ao37 t344.length co37, .slice Ao38 t347.length co38], .agg #[.slice Ao39 t350.length co39, .slice Ao40 t353.length co40]] (by rfl) rfl rfl lU ?_
      with_reducible refine (spec_Join.calls k (fun k_ => some k_ = (.slice Ao37 t344.length co37 : Value).ownBlock) _ _ t344 (fun k_ => some k_ = (.slice Ao38 t347.length co38 : Value).ownBlock) _ _ t347 (fun k_ => some k_ = (.slice Ao39 t350.length co39 : Value).ownBlock) _ _ t350 (fun k_ => some k_ = (.slice Ao40 t353.length co40 : Value).ownBlock) _ _ t353 t356 t359 t362 _ ?side1 ?side2 ?side3 ?side4 A21.out).mono ?_
      (case side1 => exact Kd.R_V (Kd.R_tight rfl (Kd.R_types (Kd.R_types (Kd.R_types (HO346.out) BK340.out (by decide)) BK341.out (by decide)) BK363.out (by decide))))
      (case side2 => exact Kd.R_V (Kd.R_tight rfl (Kd.R_types (Kd.R_types (Kd.R_types (HO349.out) BK340.out (by decide)) BK341.out (by decide)) BK363.out (by decide))))
      (case side3 => exact Kd.R_V (Kd.R_tight rfl (Kd.R_types (Kd.R_types (Kd.R_types (HO352.out) BK340.out (by decide)) BK341.out (by decide)) BK363.out (by decide))))
      (case side4 => exact Kd.R_V (Kd.R_tight rfl (Kd.R_types (Kd.R_types (Kd.R_types (HO355.out) BK340.out (by decide)) BK341.out (by decide)) BK363.out (by decide))))
      rintro e w41 ⟨v357, v360, rfl, ho0, ho1, hb⟩
      refine ⟨_, rfl, ?_⟩
      have HO358 := Aside0.mk (Kd.V_lower (Kd.V_mono (ok' := fun k_ => k_ ≠ gb340 ∧ k_ ≠ gb341 ∧ k_ ≠ gb363) ho0 (fun k_ hk_ => ⟨Or.elim hk_ (fun hs_ => Or.elim hs_ (fun hs_ => ((Kd.R_types (Kd.R_types (Kd.R_types (HO346.out) BK340.out (by decide)) BK341.out (by decide)) BK363.out (by decide)).1 k_ hs_.symm).1.1.2) (fun hs_ => Or.elim hs_ (fun hs_ => ((Kd.R_types (Kd.R_types (Kd.R_types (HO349.out) BK340.out (by decide)) BK341.out (by decide)) BK363.out (by decide)).1 k_ hs_.symm).1.1.2) (fun hs_ => Or.elim hs_ (fun hs_ => ((Kd.R_types (Kd.R_types (Kd.R_types (HO352.out) BK340.out (by decide)) BK341.out (by decide)) BK363.out (by decide)).1 k_ hs_.symm).1.1.2) (fun hs_ => ((Kd.R_types (Kd.R_types (Kd.R_types (HO355.out) BK340.out (by decide)) BK341.out (by decide)) BK363.out (by decide)).1 k_ hs_.symm).1.1.2)))) (fun hn_ => (Kd.freshB (g := gb340) (o := .cells #[.slice A0_0 l0_0.length c0_0, .slice A0_1 l0_1.length c0_1] 24 (0, 0)) (kU BK340.out) k_ hn_)), Or.elim hk_ (fun hs_ => Or.elim hs_ (fun hs_ => ((Kd.R_types (Kd.R_types (Kd.R_types (HO346.out) BK340.out (by decide)) BK341.out (by decide)) BK363.out (by decide)).1 k_ hs_.symm).1.2) (fun hs_ => Or.elim hs_ (fun hs_ => ((Kd.R_types (Kd.R_types (Kd.R_types (HO349.out) BK340.out (by decide)) BK341.out (by decide)) BK363.out (by decide)).1 k_ hs_.symm).1.2) (fun hs_ => Or.elim hs_ (fun hs_ => ((Kd.R_types (Kd.R_types (Kd.R_types (HO352.out) BK340.out (by decide)) BK341.out (by decide)) BK363.out (by decide)).1 k_ hs_.symm).1.2) (fun hs_ => ((Kd.R_types (Kd.R_types (Kd.R_types (HO355.out) BK340.out (by decide)) BK341.out (by decide)) BK363.out (by decide)).1 k_ hs_.symm).1.2)))) (fun hn_ => (Kd.freshB (g := gb341) (o := .cells #[.slice A1_0 l1_0.length c1_0, .slice A1_1 l1_1.length c1_1] 24 (0, 0)) (kU BK341.out) k_ hn_)), Or.elim hk_ (fun hs_ => Or.elim hs_ (fun hs_ => ((Kd.R_types (Kd.R_types (Kd.R_types (HO346.out) BK340.out (by decide)) BK341.out (by decide)) BK363.out (by decide)).1 k_ hs_.symm).2) (fun hs_ => Or.elim hs_ (fun hs_ => ((Kd.R_types (Kd.R_types (Kd.R_types (HO349.out) BK340.out (by decide)) BK341.out (by decide)) BK363.out (by decide)).1 k_ hs_.symm).2) (fun hs_ => Or.elim hs_ (fun hs_ => ((Kd.R_types (Kd.R_types (Kd.R_types (HO352.out) BK340.out (by decide)) BK341.out (by decide)) BK363.out (by decide)).1 k_ hs_.symm).2) (fun hs_ => ((Kd.R_types (Kd.R_types (Kd.R_types (HO355.out) BK340.out (by decide)) BK341.out (by decide)) BK363.out (by decide)).1 k_ hs_.symm).2)))) (fun hn_ => (Kd.freshB (g := gb363) (o := .cells #[.slice none 0 0, .slice none 0 0] 26 (0, 0)) (kU BK363.out) k_ hn_))⟩)) (below_size (bS3 HB.out GE340.out GE341.out GE363.out)))
      have HO361 := Aside0.mk (Kd.V_lower (Kd.V_mono (ok' := fun k_ => k_ ≠ gb340 ∧ k_ ≠ gb341 ∧ k_ ≠ gb363) ho1 (fun k_ hk_ => ⟨Or.elim hk_ (fun hs_ => Or.elim hs_ (fun hs_ => ((Kd.R_types (Kd.R_types (Kd.R_types (HO346.out) BK340.out (by decide)) BK341.out (by decide)) BK363.out (by decide)).1 k_ hs_.symm).1.1.2) (fun hs_ => Or.elim hs_ (fun hs_ => ((Kd.R_types (Kd.R_types (Kd.R_types (HO349.out) BK340.out (by decide)) BK341.out (by decide)) BK363.out (by decide)).1 k_ hs_.symm).1.1.2) (fun hs_ => Or.elim hs_ (fun hs_ => ((Kd.R_types (Kd.R_types (Kd.R_types (HO352.out) BK340.out (by decide)) BK341.out (by decide)) BK363.out (by decide)).1 k_ hs_.symm).1.1.2) (fun hs_ => ((Kd.R_types (Kd.R_types (Kd.R_types (HO355.out) BK340.out (by decide)) BK341.out (by decide)) BK363.out (by decide)).1 k_ hs_.symm).1.1.2)))) (fun hn_ => (Kd.freshB (g := gb340) (o := .cells #[.slice A0_0 l0_0.length c0_0, .slice A0_1 l0_1.length c0_1] 24 (0, 0)) (kU BK340.out) k_ hn_)), Or.elim hk_ (fun hs_ => Or.elim hs_ (fun hs_ => ((Kd.R_types (Kd.R_types (Kd.R_types (HO346.out) BK340.out (by decide)) BK341.out (by decide)) BK363.out (by decide)).1 k_ hs_.symm).1.2) (fun hs_ => Or.elim hs_ (fun hs_ => ((Kd.R_types (Kd.R_types (Kd.R_types (HO349.out) BK340.out (by decide)) BK341.out (by decide)) BK363.out (by decide)).1 k_ hs_.symm).1.2) (fun hs_ => Or.elim hs_ (fun hs_ => ((Kd.R_types (Kd.R_types (Kd.R_types (HO352.out) BK340.out (by decide)) BK341.out (by decide)) BK363.out (by decide)).1 k_ hs_.symm).1.2) (fun hs_ => ((Kd.R_types (Kd.R_types (Kd.R_types (HO355.out) BK340.out (by decide)) BK341.out (by decide)) BK363.out (by decide)).1 k_ hs_.symm).1.2)))) (fun hn_ => (Kd.freshB (g := gb341) (o := .cells #[.slice A1_0 l1_0.length c1_0, .slice A1_1 l1_1.length c1_1] 24 (0, 0)) (kU BK341.out) k_ hn_)), Or.elim hk_ (fun hs_ => Or.elim hs_ (fun hs_ => ((Kd.R_types (Kd.R_types (Kd.R_types (HO346.out) BK340.out (by decide)) BK341.out (by decide)) BK363.out (by decide)).1 k_ hs_.symm).2) (fun hs_ => Or.elim hs_ (fun hs_ => ((Kd.R_types (Kd.R_types (Kd.R_types (HO349.out) BK340.out (by decide)) BK341.out (by decide)) BK363.out (by decide)).1 k_ hs_.symm).2) (fun hs_ => Or.elim hs_ (fun hs_ => ((Kd.R_types (Kd.R_types (Kd.R_types (HO352.out) BK340.out (by decide)) BK341.out (by decide)) BK363.out (by decide)).1 k_ hs_.symm).2) (fun hs_ => ((Kd.R_types (Kd.R_types (Kd.R_types (HO355.out) BK340.out (by decide)) BK341.out (by decide)) BK363.out (by decide)).1 k_ hs_.symm).2)))) (fun hn_ => (Kd.freshB (g := gb363) (o := .cells #[.slice none 0 0, .slice none 0 0] 26 (0, 0)) (kU BK363.out) k_ hn_))⟩)) (below_size (bS3 HB.out GE340.out GE341.out GE363.out)))
      replace HO346 := Aside0.mk (Kd.R_below (RU HO346.out) hb)
      replace HO349 := Aside0.mk (Kd.R_below (RU HO349.out) hb)
      replace HO352 := Aside0.mk (Kd.R_below (RU HO352.out) hb)
      replace HO355 := Aside0.mk (Kd.R_below (RU HO355.out) hb)
      replace BK340 := Aside0.mk (kB BK340.out hb)
      replace BK341 := Aside0.mk (kB BK341.out hb)
      replace BK363 := Aside0.mk (kB BK363.out hb)
      replace HB := Aside0.mk (below_step (bS3 HB.out GE340.out GE341.out GE363.out) hb)
      (try clear hb)
      (try clear hb2)
      (try clear hk)
      (try clear hi)
      (try clear ho0)
      (try clear ho1)
      refine hK.out _ _ ⟨(blk_cell BK340.out 0).trans rfl, (blk_cell BK340.out 1).trans rfl, (blk_cell BK341.out 0).trans rfl, (blk_cell BK341.out 1).trans rfl⟩ (fun hHeld => ?_)
      clear hK K
      refine norm_ (a' := ?_) ?_ ?_
      rotate_left
      ·
       show Act.put _ (some 32) _ = _
       simp only [Act.put, List.setIfInBounds_toArray, List.set_cons_zero, List.set_cons_succ, i64_w, i32_w]
       rfl
      refine pure_ (i := 5) (N := some 27) (v := ?_) (a' := ?_) #[true, true, true, true, true, true, false, false, true, false, false] rfl rfl (any_of HT_.out (by kernel_rfl)) (fun _ _ _ h => h) (Or.inl ⟨by rfl, ?_⟩) ?_ ?_
      rotate_left
      ·
       intro w'
       go_simp
       with_reducible rfl
      rotate_left
      ·
       simp only [Act.put, List.setIfInBounds_toArray, List.set_cons_zero, List.set_cons_succ, i64_w, i32_w]
       rfl
      refine pure_ (i := 6) (N := some 33) (v := ?_) (a' := ?_) #[true, true, true, true, true, true, true, false, true, false, false] rfl rfl (any_of HT_.out (by kernel_rfl)) (fun _ _ _ h => h) (Or.inl ⟨by rfl, ?_⟩) ?_ ?_
      rotate_left
      ·
       intro w'
       go_simp
       with_reducible rfl
      rotate_left
      ·
       simp only [Act.put, List.setIfInBounds_toArray, List.set_cons_zero, List.set_cons_succ, i64_w, i32_w]
       rfl
      refine pure_ (i := 7) (N := some 34) (v := ?_) (a' := ?_) #[true, true, true, true, true, true, true, true, true, false, false] rfl rfl (any_of HT_.out (by kernel_rfl)) (fun _ _ _ h => h) (Or.inl ⟨by rfl, ?_⟩) ?_ ?_
      rotate_left
      ·
       intro w'
       go_simp
       with_reducible rfl
      rotate_left
      ·
       simp only [Act.put, List.setIfInBounds_toArray, List.set_cons_zero, List.set_cons_succ, i64_w, i32_w]
       rfl
      exact norm_ (by simp only [putAll, Act.put, List.setIfInBounds_toArray, List.set_cons_zero, List.set_cons_succ]) (hCont (.slice Ao37 t344.length co37, .slice Ao38 t347.length co38, .slice Ao39 t350.length co39, .slice Ao40 t353.length co40, v357, v360, gb363) _ ⟨hHeld, (by refine RU ?_; exact Kd.R_mono HO346.out (fun _ hk => ⟨hk.1.1, ⟨hk.1.2, hk.2⟩⟩)), (by refine RU ?_; exact Kd.R_mono HO349.out (fun _ hk => ⟨hk.1.1, ⟨hk.1.2, hk.2⟩⟩)), (by refine RU ?_; exact Kd.R_mono HO352.out (fun _ hk => ⟨hk.1.2, ⟨hk.2, hk.1.1⟩⟩)), (by refine RU ?_; exact Kd.R_mono HO355.out (fun _ hk => ⟨hk.1.2, ⟨hk.2, hk.1.1⟩⟩)), (VU HO358.out), (VU HO361.out), (kU BK340.out), (kU BK341.out), (kU BK363.out), GW363.out, GE363.out, NB340_363.out, NB363_340.out, NB341_363.out, NB363_341.out, (bS3 HB.out GE340.out GE341.out GE363.out)⟩)
    ·
     skip
     refine box_step ?hg (N := 6) ?hd (cs := #[.slice none 0 0, .slice none 0 0]) (t := 26) ?hr ?_; (case hd => rfl); (case hg => rfl); (case hr => first | (go_simp; done) | (go_simp; rfl))
     intro gb363 hg w34 hbox hb
     have BK363 := Aside0.mk (hbox)
     have GW363 := Aside0.mk ((by rw [hg]; exact (below_size (bS2 HB.out GE340.out GE341.out)) : w.heap.size ≤ gb363))
     have GE363 := Aside0.mk ((by rw [hg]; exact (below_size (bS2 HB.out GE340.out GE341.out)) : w.heap.size ≤ gb363))
     replace HB := Aside0.mk (below_step (bS2 HB.out GE340.out GE341.out) hb)
     have NB340_363 := Aside0.mk (kN BK340.out hg)
     have NB363_340 := Aside0.mk (kM BK340.out hg)
     replace BK340 := Aside0.mk (kB BK340.out hb)
     have NB341_363 := Aside0.mk (kN BK341.out hg)
     have NB363_341 := Aside0.mk (kM BK341.out hg)
     replace BK341 := Aside0.mk (kB BK341.out hb)
     clear hb hbox hg
     refine hK.out _ _ ⟨(blk_cell BK340.out 0).trans rfl, (blk_cell BK340.out 1).trans rfl, (blk_cell BK341.out 0).trans rfl, (blk_cell BK341.out 1).trans rfl⟩ (fun hHeld => ?_)
     clear hK K
     refine norm_ (a' := ?_) ?_ ?_
     rotate_left
     ·
      show Act.put _ (some 6) _ = _
      simp only [Act.put, List.setIfInBounds_toArray, List.set_cons_zero, List.set_cons_succ, i64_w, i32_w]
      rfl
     refine one_ (i := 1) (N := some 29) #[true, true, true, false, false, false, false, false, true, false, false] rfl rfl (one_of HT_.out (by kernel_rfl)) (by decide) (fun K hK => ?_)
     refine goes_ Try.func17 (by kernel_rfl) rfl #[.agg #[.slice A0_0 l0_0.length c0_0, .slice A0_1 l0_1.length c0_1]] (by rfl) rfl rfl lU ?_
     with_reducible refine (laws_toArray.calls k _ _ l0_0 _ _ l0_1 t344 t347 _ ?side1 ?side2 ?side3 ?side4 A19.out).mono ?_
     (case side1 => exact cU (Kd.C_below HR0_0.out HB.out))
     (case side2 => exact HC0_0.out)
     (case side3 => exact cU (Kd.C_below HR0_1.out HB.out))
     (case side4 => exact HC0_1.out)
     rintro e w35 ⟨v345, v348, rfl, ho0, ho1, hb⟩
     refine ⟨_, rfl, ?_⟩
     have HO346 := Aside0.mk (Kd.R_lower ho0 (below_size (bS3 HB.out GE340.out GE341.out GE363.out)))
     have HO349 := Aside0.mk (Kd.R_lower ho1 (below_size (bS3 HB.out GE340.out GE341.out GE363.out)))
     replace BK340 := Aside0.mk (kB BK340.out hb)
     replace BK341 := Aside0.mk (kB BK341.out hb)
     replace BK363 := Aside0.mk (kB BK363.out hb)
     replace HB := Aside0.mk (below_step (bS3 HB.out GE340.out GE341.out GE363.out) hb)
     (try clear hb)
     (try clear hb2)
     (try clear hk)
     (try clear hi)
     (try clear ho0)
     (try clear ho1)
     refine hK.out _ _ ⟨(blk_cell BK340.out 0).trans rfl, (blk_cell BK340.out 1).trans rfl, (blk_cell BK341.out 0).trans rfl, (blk_cell BK341.out 1).trans rfl⟩ (fun hHeld => ?_)
     clear hK K
     refine norm_ (a' := ?_) ?_ ?_
     rotate_left
     ·
      show Act.put _ (some 29) _ = _
      simp only [Act.put, List.setIfInBounds_toArray, List.set_cons_zero, List.set_cons_succ, i64_w, i32_w]
      rfl
     refine one_ (i := 3) (N := some 31) #[true, true, true, true, false, false, false, false, true, false, false] rfl rfl (one_of HT_.out (by kernel_rfl)) (by decide) (fun K hK => ?_)
     refine goes_ Try.func17 (by kernel_rfl) rfl #[.agg #[.slice A1_0 l1_0.length c1_0, .slice A1_1 l1_1.length c1_1]] (by rfl) rfl rfl lU ?_
     with_reducible refine (laws_toArray.calls k _ _ l1_0 _ _ l1_1 t350 t353 _ ?side1 ?side2 ?side3 ?side4 A20.out).mono ?_
     (case side1 => exact cU (Kd.C_below HR1_0.out HB.out))
     (case side2 => exact HC1_0.out)
     (case side3 => exact cU (Kd.C_below HR1_1.out HB.out))
     (case side4 => exact HC1_1.out)
     rintro e w36 ⟨v351, v354, rfl, ho0, ho1, hb⟩
     refine ⟨_, rfl, ?_⟩
     have HO352 := Aside0.mk (Kd.R_lower (Kd.R_new' (Kd.R_new' ho0 (Kd.R_lt (RU HO346.out))) (Kd.R_lt (RU HO349.out))) (below_size (bS3 HB.out GE340.out GE341.out GE363.out)))
     have HO355 := Aside0.mk (Kd.R_lower (Kd.R_new' (Kd.R_new' ho1 (Kd.R_lt (RU HO346.out))) (Kd.R_lt (RU HO349.out))) (below_size (bS3 HB.out GE340.out GE341.out GE363.out)))
     replace HO346 := Aside0.mk (Kd.R_mono (Kd.R_told (Kd.R_told (Kd.R_old (RU HO346.out) hb) (Kd.R_base ho0)) (Kd.R_base ho1)) (fun _ h_ => h_.1))
     replace HO349 := Aside0.mk (Kd.R_mono (Kd.R_told (Kd.R_told (Kd.R_old (RU HO349.out) hb) (Kd.R_base ho0)) (Kd.R_base ho1)) (fun _ h_ => h_.1))
     replace BK340 := Aside0.mk (kB BK340.out hb)
     replace BK341 := Aside0.mk (kB BK341.out hb)
     replace BK363 := Aside0.mk (kB BK363.out hb)
     replace HB := Aside0.mk (below_step (bS3 HB.out GE340.out GE341.out GE363.out) hb)
     (try clear hb)
     (try clear hb2)
     (try clear hk)
     (try clear hi)
     (try clear ho0)
     (try clear ho1)
     obtain ⟨Ao37, co37, eo37⟩ := Kd.R_slice HO346.out
     (first | subst eo37 | (injection eo37 with f1_ f2_ f3_; have f4_ := f1_.symm; have f5_ := f3_.symm; clear f1_ f2_ f3_; subst f4_; subst f5_))
     obtain ⟨Ao38, co38, eo38⟩ := Kd.R_slice HO349.out
     (first | subst eo38 | (injection eo38 with f1_ f2_ f3_; have f4_ := f1_.symm; have f5_ := f3_.symm; clear f1_ f2_ f3_; subst f4_; subst f5_))
     obtain ⟨Ao39, co39, eo39⟩ := Kd.R_slice HO352.out
     (first | subst eo39 | (injection eo39 with f1_ f2_ f3_; have f4_ := f1_.symm; have f5_ := f3_.symm; clear f1_ f2_ f3_; subst f4_; subst f5_))
     obtain ⟨Ao40, co40, eo40⟩ := Kd.R_slice HO355.out
     (first | subst eo40 | (injection eo40 with f1_ f2_ f3_; have f4_ := f1_.symm; have f5_ := f3_.symm; clear f1_ f2_ f3_; subst f4_; subst f5_))
     refine hK.out _ _ ⟨(blk_cell BK340.out 0).trans rfl, (blk_cell BK340.out 1).trans rfl, (blk_cell BK341.out 0).trans rfl, (blk_cell BK341.out 1).trans rfl⟩ (fun hHeld => ?_)
     clear hK K
     refine norm_ (a' := ?_) ?_ ?_
     rotate_left
     ·
      show Act.put _ (some 31) _ = _
      simp only [Act.put, List.setIfInBounds_toArray, List.set_cons_zero, List.set_cons_succ, i64_w, i32_w]
      rfl
     refine one_ (i := 4) (N := some 32) #[true, true, true, true, true, false, false, false, true, false, false] rfl rfl (one_of HT_.out (by kernel_rfl)) (by decide) (fun K hK => ?_)
     refine goes_ Try.func50 (by kernel_rfl) rfl #[.agg #[.slice Ao37 t344.length co37, .slice Ao38 t347.length co38], .agg #[.slice Ao39 t350.length co39, .slice Ao40 t353.length co40]] (by rfl) rfl rfl lU ?_
     with_reducible refine (spec_Join.calls k (fun k_ => some k_ = (.slice Ao37 t344.length co37 : Value).ownBlock) _ _ t344 (fun k_ => some k_ = (.slice Ao38 t347.length co38 : Value).ownBlock) _ _ t347 (fun k_ => some k_ = (.slice Ao39 t350.length co39 : Value).ownBlock) _ _ t350 (fun k_ => some k_ = (.slice Ao40 t353.length co40 : Value).ownBlock) _ _ t353 t356 t359 t362 _ ?side1 ?side2 ?side3 ?side4 A21.out).mono ?_
     (case side1 => exact Kd.R_V (Kd.R_tight rfl (Kd.R_types (Kd.R_types (Kd.R_types (HO346.out) BK340.out (by decide)) BK341.out (by decide)) BK363.out (by decide))))
     (case side2 => exact Kd.R_V (Kd.R_tight rfl (Kd.R_types (Kd.R_types (Kd.R_types (HO349.out) BK340.out (by decide)) BK341.out (by decide)) BK363.out (by decide))))
     (case side3 => exact Kd.R_V (Kd.R_tight rfl (Kd.R_types (Kd.R_types (Kd.R_types (HO352.out) BK340.out (by decide)) BK341.out (by decide)) BK363.out (by decide))))
     (case side4 => exact Kd.R_V (Kd.R_tight rfl (Kd.R_types (Kd.R_types (Kd.R_types (HO355.out) BK340.out (by decide)) BK341.out (by decide)) BK363.out (by decide))))
     rintro e w41 ⟨v357, v360, rfl, ho0, ho1, hb⟩
     refine ⟨_, rfl, ?_⟩
     have HO358 := Aside0.mk (Kd.V_lower (Kd.V_mono (ok' := fun k_ => k_ ≠ gb340 ∧ k_ ≠ gb341 ∧ k_ ≠ gb363) ho0 (fun k_ hk_ => ⟨Or.elim hk_ (fun hs_ => Or.elim hs_ (fun hs_ => ((Kd.R_types (Kd.R_types (Kd.R_types (HO346.out) BK340.out (by decide)) BK341.out (by decide)) BK363.out (by decide)).1 k_ hs_.symm).1.1.2) (fun hs_ => Or.elim hs_ (fun hs_ => ((Kd.R_types (Kd.R_types (Kd.R_types (HO349.out) BK340.out (by decide)) BK341.out (by decide)) BK363.out (by decide)).1 k_ hs_.symm).1.1.2) (fun hs_ => Or.elim hs_ (fun hs_ => ((Kd.R_types (Kd.R_types (Kd.R_types (HO352.out) BK340.out (by decide)) BK341.out (by decide)) BK363.out (by decide)).1 k_ hs_.symm).1.1.2) (fun hs_ => ((Kd.R_types (Kd.R_types (Kd.R_types (HO355.out) BK340.out (by decide)) BK341.out (by decide)) BK363.out (by decide)).1 k_ hs_.symm).1.1.2)))) (fun hn_ => (Kd.freshB (g := gb340) (o := .cells #[.slice A0_0 l0_0.length c0_0, .slice A0_1 l0_1.length c0_1] 24 (0, 0)) (kU BK340.out) k_ hn_)), Or.elim hk_ (fun hs_ => Or.elim hs_ (fun hs_ => ((Kd.R_types (Kd.R_types (Kd.R_types (HO346.out) BK340.out (by decide)) BK341.out (by decide)) BK363.out (by decide)).1 k_ hs_.symm).1.2) (fun hs_ => Or.elim hs_ (fun hs_ => ((Kd.R_types (Kd.R_types (Kd.R_types (HO349.out) BK340.out (by decide)) BK341.out (by decide)) BK363.out (by decide)).1 k_ hs_.symm).1.2) (fun hs_ => Or.elim hs_ (fun hs_ => ((Kd.R_types (Kd.R_types (Kd.R_types (HO352.out) BK340.out (by decide)) BK341.out (by decide)) BK363.out (by decide)).1 k_ hs_.symm).1.2) (fun hs_ => ((Kd.R_types (Kd.R_types (Kd.R_types (HO355.out) BK340.out (by decide)) BK341.out (by decide)) BK363.out (by decide)).1 k_ hs_.symm).1.2)))) (fun hn_ => (Kd.freshB (g := gb341) (o := .cells #[.slice A1_0 l1_0.length c1_0, .slice A1_1 l1_1.length c1_1] 24 (0, 0)) (kU BK341.out) k_ hn_)), Or.elim hk_ (fun hs_ => Or.elim hs_ (fun hs_ => ((Kd.R_types (Kd.R_types (Kd.R_types (HO346.out) BK340.out (by decide)) BK341.out (by decide)) BK363.out (by decide)).1 k_ hs_.symm).2) (fun hs_ => Or.elim hs_ (fun hs_ => ((Kd.R_types (Kd.R_types (Kd.R_types (HO349.out) BK340.out (by decide)) BK341.out (by decide)) BK363.out (by decide)).1 k_ hs_.symm).2) (fun hs_ => Or.elim hs_ (fun hs_ => ((Kd.R_types (Kd.R_types (Kd.R_types (HO352.out) BK340.out (by decide)) BK341.out (by decide)) BK363.out (by decide)).1 k_ hs_.symm).2) (fun hs_ => ((Kd.R_types (Kd.R_types (Kd.R_types (HO355.out) BK340.out (by decide)) BK341.out (by decide)) BK363.out (by decide)).1 k_ hs_.symm).2)))) (fun hn_ => (Kd.freshB (g := gb363) (o := .cells #[.slice none 0 0, .slice none 0 0] 26 (0, 0)) (kU BK363.out) k_ hn_))⟩)) (below_size (bS3 HB.out GE340.out GE341.out GE363.out)))
     have HO361 := Aside0.mk (Kd.V_lower (Kd.V_mono (ok' := fun k_ => k_ ≠ gb340 ∧ k_ ≠ gb341 ∧ k_ ≠ gb363) ho1 (fun k_ hk_ => ⟨Or.elim hk_ (fun hs_ => Or.elim hs_ (fun hs_ => ((Kd.R_types (Kd.R_types (Kd.R_types (HO346.out) BK340.out (by decide)) BK341.out (by decide)) BK363.out (by decide)).1 k_ hs_.symm).1.1.2) (fun hs_ => Or.elim hs_ (fun hs_ => ((Kd.R_types (Kd.R_types (Kd.R_types (HO349.out) BK340.out (by decide)) BK341.out (by decide)) BK363.out (by decide)).1 k_ hs_.symm).1.1.2) (fun hs_ => Or.elim hs_ (fun hs_ => ((Kd.R_types (Kd.R_types (Kd.R_types (HO352.out) BK340.out (by decide)) BK341.out (by decide)) BK363.out (by decide)).1 k_ hs_.symm).1.1.2) (fun hs_ => ((Kd.R_types (Kd.R_types (Kd.R_types (HO355.out) BK340.out (by decide)) BK341.out (by decide)) BK363.out (by decide)).1 k_ hs_.symm).1.1.2)))) (fun hn_ => (Kd.freshB (g := gb340) (o := .cells #[.slice A0_0 l0_0.length c0_0, .slice A0_1 l0_1.length c0_1] 24 (0, 0)) (kU BK340.out) k_ hn_)), Or.elim hk_ (fun hs_ => Or.elim hs_ (fun hs_ => ((Kd.R_types (Kd.R_types (Kd.R_types (HO346.out) BK340.out (by decide)) BK341.out (by decide)) BK363.out (by decide)).1 k_ hs_.symm).1.2) (fun hs_ => Or.elim hs_ (fun hs_ => ((Kd.R_types (Kd.R_types (Kd.R_types (HO349.out) BK340.out (by decide)) BK341.out (by decide)) BK363.out (by decide)).1 k_ hs_.symm).1.2) (fun hs_ => Or.elim hs_ (fun hs_ => ((Kd.R_types (Kd.R_types (Kd.R_types (HO352.out) BK340.out (by decide)) BK341.out (by decide)) BK363.out (by decide)).1 k_ hs_.symm).1.2) (fun hs_ => ((Kd.R_types (Kd.R_types (Kd.R_types (HO355.out) BK340.out (by decide)) BK341.out (by decide)) BK363.out (by decide)).1 k_ hs_.symm).1.2)))) (fun hn_ => (Kd.freshB (g := gb341) (o := .cells #[.slice A1_0 l1_0.length c1_0, .slice A1_1 l1_1.length c1_1] 24 (0, 0)) (kU BK341.out) k_ hn_)), Or.elim hk_ (fun hs_ => Or.elim hs_ (fun hs_ => ((Kd.R_types (Kd.R_types (Kd.R_types (HO346.out) BK340.out (by decide)) BK341.out (by decide)) BK363.out (by decide)).1 k_ hs_.symm).2) (fun hs_ => Or.elim hs_ (fun hs_ => ((Kd.R_types (Kd.R_types (Kd.R_types (HO349.out) BK340.out (by decide)) BK341.out (by decide)) BK363.out (by decide)).1 k_ hs_.symm).2) (fun hs_ => Or.elim hs_ (fun hs_ => ((Kd.R_types (Kd.R_types (Kd.R_types (HO352.out) BK340.out (by decide)) BK341.out (by decide)) BK363.out (by decide)).1 k_ hs_.symm).2) (fun hs_ => ((Kd.R_types (Kd.R_types (Kd.R_types (HO355.out) BK340.out (by decide)) BK341.out (by decide)) BK363.out (by decide)).1 k_ hs_.symm).2)))) (fun hn_ => (Kd.freshB (g := gb363) (o := .cells #[.slice none 0 0, .slice none 0 0] 26 (0, 0)) (kU BK363.out) k_ hn_))⟩)) (below_size (bS3 HB.out GE340.out GE341.out GE363.out)))
     replace HO346 := Aside0.mk (Kd.R_below (RU HO346.out) hb)
     replace HO349 := Aside0.mk (Kd.R_below (RU HO349.out) hb)
     replace HO352 := Aside0.mk (Kd.R_below (RU HO352.out) hb)
     replace HO355 := Aside0.mk (Kd.R_below (RU HO355.out) hb)
     replace BK340 := Aside0.mk (kB BK340.out hb)
     replace BK341 := Aside0.mk (kB BK341.out hb)
     replace BK363 := Aside0.mk (kB BK363.out hb)
     replace HB := Aside0.mk (below_step (bS3 HB.out GE340.out GE341.out GE363.out) hb)
     (try clear hb)
     (try clear hb2)
     (try clear hk)
     (try clear hi)
     (try clear ho0)
     (try clear ho1)
     refine hK.out _ _ ⟨(blk_cell BK340.out 0).trans rfl, (blk_cell BK340.out 1).trans rfl, (blk_cell BK341.out 0).trans rfl, (blk_cell BK341.out 1).trans rfl⟩ (fun hHeld => ?_)
     clear hK K
     refine norm_ (a' := ?_) ?_ ?_
     rotate_left
     ·
      show Act.put _ (some 32) _ = _
      simp only [Act.put, List.setIfInBounds_toArray, List.set_cons_zero, List.set_cons_succ, i64_w, i32_w]
      rfl
     refine pure_ (i := 5) (N := some 27) (v := ?_) (a' := ?_) #[true, true, true, true, true, true, false, false, true, false, false] rfl rfl (any_of HT_.out (by kernel_rfl)) (fun _ _ _ h => h) (Or.inl ⟨by rfl, ?_⟩) ?_ ?_
     rotate_left
     ·
      intro w'
      go_simp
      with_reducible rfl
     rotate_left
     ·
      simp only [Act.put, List.setIfInBounds_toArray, List.set_cons_zero, List.set_cons_succ, i64_w, i32_w]
      rfl
     refine pure_ (i := 6) (N := some 33) (v := ?_) (a' := ?_) #[true, true, true, true, true, true, true, false, true, false, false] rfl rfl (any_of HT_.out (by kernel_rfl)) (fun _ _ _ h => h) (Or.inl ⟨by rfl, ?_⟩) ?_ ?_
     rotate_left
     ·
      intro w'
      go_simp
      with_reducible rfl
     rotate_left
     ·
      simp only [Act.put, List.setIfInBounds_toArray, List.set_cons_zero, List.set_cons_succ, i64_w, i32_w]
      rfl
     refine pure_ (i := 7) (N := some 34) (v := ?_) (a' := ?_) #[true, true, true, true, true, true, true, true, true, false, false] rfl rfl (any_of HT_.out (by kernel_rfl)) (fun _ _ _ h => h) (Or.inl ⟨by rfl, ?_⟩) ?_ ?_
     rotate_left
     ·
      intro w'
      go_simp
      with_reducible rfl
     rotate_left
     ·
      simp only [Act.put, List.setIfInBounds_toArray, List.set_cons_zero, List.set_cons_succ, i64_w, i32_w]
      rfl
     exact norm_ (by simp only [putAll, Act.put, List.setIfInBounds_toArray, List.set_cons_zero, List.set_cons_succ]) (hCont (.slice Ao37 t344.length co37, .slice Ao38 t347.length co38, .slice Ao39 t350.length co39, .slice Ao40 t353.length co40, v357, v360, gb363) _ ⟨hHeld, (by refine RU ?_; exact Kd.R_mono HO346.out (fun _ hk => ⟨hk.1.1, ⟨hk.1.2, hk.2⟩⟩)), (by refine RU ?_; exact Kd.R_mono HO349.out (fun _ hk => ⟨hk.1.1, ⟨hk.1.2, hk.2⟩⟩)), (by refine RU ?_; exact Kd.R_mono HO352.out (fun _ hk => ⟨hk.1.2, ⟨hk.2, hk.1.1⟩⟩)), (by refine RU ?_; exact Kd.R_mono HO355.out (fun _ hk => ⟨hk.1.2, ⟨hk.2, hk.1.1⟩⟩)), (VU HO358.out), (VU HO361.out), (kU BK340.out), (kU BK341.out), (kU BK363.out), GW363.out, GE363.out, NB340_363.out, NB363_340.out, NB341_363.out, NB363_341.out, (bS3 HB.out GE340.out GE341.out GE363.out)⟩)
   rintro ⟨v345, v348, v351, v354, v357, v360, gb363⟩ w42 ⟨hS_, h0_, h1_, h2_, h3_, h4_, h5_, h6_, h7_, h8_, h9_, h10_, h11_, h12_, h13_, h14_, h15_⟩
   have n0_ : Aside0 (Kd.R (Kd.int .i64) 3 w42 w.heap.size (fun k_ => some k_ ≠ (v348 : Value).ownBlock ∧ some k_ ≠ (v351 : Value).ownBlock ∧ some k_ ≠ (v354 : Value).ownBlock) v345 t344) := ⟨h0_⟩
   have n1_ : Aside0 (Kd.R (Kd.int .i64) 3 w42 w.heap.size (fun k_ => some k_ ≠ (v345 : Value).ownBlock ∧ some k_ ≠ (v351 : Value).ownBlock ∧ some k_ ≠ (v354 : Value).ownBlock) v348 t347) := ⟨h1_⟩
   have n2_ : Aside0 (Kd.R (Kd.int .i64) 3 w42 w.heap.size (fun k_ => some k_ ≠ (v345 : Value).ownBlock ∧ some k_ ≠ (v348 : Value).ownBlock ∧ some k_ ≠ (v354 : Value).ownBlock) v351 t350) := ⟨h2_⟩
   have n3_ : Aside0 (Kd.R (Kd.int .i64) 3 w42 w.heap.size (fun k_ => some k_ ≠ (v345 : Value).ownBlock ∧ some k_ ≠ (v348 : Value).ownBlock ∧ some k_ ≠ (v351 : Value).ownBlock) v354 t353) := ⟨h3_⟩
   have n4_ : Aside0 (Kd.V (Kd.int .i64) 3 w42 w.heap.size (fun k_ => k_ ≠ gb340 ∧ k_ ≠ gb341 ∧ k_ ≠ gb363) v357 t356) := ⟨h4_⟩
   have n5_ : Aside0 (Kd.V (Kd.int .i64) 3 w42 w.heap.size (fun k_ => k_ ≠ gb340 ∧ k_ ≠ gb341 ∧ k_ ≠ gb363) v360 t359) := ⟨h5_⟩
   have n6_ : Aside0 (w42.heap[gb340]? = some (.cells #[.slice A0_0 l0_0.length c0_0, .slice A0_1 l0_1.length c0_1] 24 (0, 0))) := ⟨h6_⟩
   have n7_ : Aside0 (w42.heap[gb341]? = some (.cells #[.slice A1_0 l1_0.length c1_0, .slice A1_1 l1_1.length c1_1] 24 (0, 0))) := ⟨h7_⟩
   have n8_ : Aside0 (w42.heap[gb363]? = some (.cells #[.slice none 0 0, .slice none 0 0] 26 (0, 0))) := ⟨h8_⟩
   have n9_ : Aside0 (w.heap.size ≤ gb363) := ⟨h9_⟩
   have n10_ : Aside0 (w.heap.size ≤ gb363) := ⟨h10_⟩
   have n11_ : Aside0 (gb340 ≠ gb363) := ⟨h11_⟩
   have n12_ : Aside0 (gb363 ≠ gb340) := ⟨h12_⟩
   have n13_ : Aside0 (gb341 ≠ gb363) := ⟨h13_⟩
   have n14_ : Aside0 (gb363 ≠ gb341) := ⟨h14_⟩
   have n15_ : Aside0 (Below w.heap.size w w42) := ⟨h15_⟩
   clear BK340 BK341 HB
   clear h0_ h1_ h2_ h3_ h4_ h5_ h6_ h7_ h8_ h9_ h10_ h11_ h12_ h13_ h14_ h15_
   have HO346 := n0_
   have HO349 := n1_
   have HO352 := n2_
   have HO355 := n3_
   have HO358 := n4_
   have HO361 := n5_
   have BK340 := n6_
   have BK341 := n7_
   have BK363 := n8_
   have GW363 := n9_
   have GE363 := n10_
   have NB340_363 := n11_
   have NB363_340 := n12_
   have NB341_363 := n13_
   have NB363_341 := n14_
   have HB := n15_
   clear n0_ n1_ n2_ n3_ n4_ n5_ n6_ n7_ n8_ n9_ n10_ n11_ n12_ n13_ n14_ n15_
   have hHeld : w42.cell? ⟨gb340, 0, none⟩ = some (.slice A0_0 l0_0.length c0_0) ∧ w42.cell? ⟨gb340, 1, none⟩ = some (.slice A0_1 l0_1.length c0_1) ∧ w42.cell? ⟨gb341, 0, none⟩ = some (.slice A1_0 l1_0.length c1_0) ∧ w42.cell? ⟨gb341, 1, none⟩ = some (.slice A1_1 l1_1.length c1_1) := hS_
   obtain ⟨Ao43, co43, eo43⟩ := Kd.V_slice HO358.out
   (first | subst eo43 | (injection eo43 with f1_ f2_ f3_; have f4_ := f1_.symm; have f5_ := f3_.symm; clear f1_ f2_ f3_; subst f4_; subst f5_))
   obtain ⟨Ao45, co45, eo45⟩ := Kd.V_slice HO361.out
   (first | subst eo45 | (injection eo45 with f1_ f2_ f3_; have f4_ := f1_.symm; have f5_ := f3_.symm; clear f1_ f2_ f3_; subst f4_; subst f5_))
   refine norm_ (a' := ?_) ?_ ?_
   rotate_left
   ·
    simp only [putAll, Act.put, List.setIfInBounds_toArray, List.set_cons_zero, List.set_cons_succ]
    rfl
   refine one_ (i := 9) (N := none) #[true, true, true, true, true, true, true, true, true, true, false] rfl rfl (one_of HT_.out (by kernel_rfl)) (by decide) (fun K hK => ?_)
   have hs44 : w42.cell? ⟨gb363, 0, none⟩ = some (.slice none 0 0) := (blk_cell BK363.out 0).trans rfl
   have hfs44 := blk_frozen BK363.out 0
   have hns44_0 := NB340_363.out
   have hns44_1 := NB341_363.out
   have hms44_0 := NB363_340.out
   have hms44_1 := NB363_341.out
   have hs46 : w42.cell? ⟨gb363, 1, none⟩ = some (.slice none 0 0) := (blk_cell BK363.out 1).trans rfl
   have hfs46 := blk_frozen BK363.out 1
   have hns46_0 := NB340_363.out
   have hns46_1 := NB341_363.out
   have hms46_0 := NB363_340.out
   have hms46_1 := NB363_341.out
   refine skip_ (w1 := ?_) (by rfl) rfl ?_ ?_
   rotate_left
   ·
    go_simp
    rfl
   refine hK.out _ _ ⟨((cell_far (p := ⟨gb363, _, none⟩) NB340_363.out _).trans (((cell_far (p := ⟨gb363, _, none⟩) NB340_363.out _).trans (hHeld.1)))), ((cell_far (p := ⟨gb363, _, none⟩) NB340_363.out _).trans (((cell_far (p := ⟨gb363, _, none⟩) NB340_363.out _).trans (hHeld.2.1)))), ((cell_far (p := ⟨gb363, _, none⟩) NB341_363.out _).trans (((cell_far (p := ⟨gb363, _, none⟩) NB341_363.out _).trans (hHeld.2.2.1)))), ((cell_far (p := ⟨gb363, _, none⟩) NB341_363.out _).trans (((cell_far (p := ⟨gb363, _, none⟩) NB341_363.out _).trans (hHeld.2.2.2))))⟩ (fun hHeld => ?_)
   clear hK K
   refine pure_ (i := 10) (N := some 7) (v := ?_) (a' := ?_) #[true, true, true, true, true, true, true, true, true, true, true] rfl rfl (any_of HT_.out (by kernel_rfl)) (fun _ _ _ h => h) (Or.inl ⟨by rfl, ?_⟩) ?_ ?_
   rotate_left
   ·
    intro w'
    go_simp
    with_reducible rfl
   rotate_left
   ·
    simp only [Act.put, List.setIfInBounds_toArray, List.set_cons_zero, List.set_cons_succ, i64_w, i32_w]
    rfl
   refine done_ (done_of HT_.out (by kernel_rfl)) ?_
   have hnb47 := NB340_363.out
   have hnc47 := NB363_340.out
   have hcz48_0 : w42.cell? ⟨gb340, 0, none⟩ = some (.slice A0_0 l0_0.length c0_0) := (blk_cell BK340.out 0).trans rfl
   have hcz48_1 : w42.cell? ⟨gb340, 1, none⟩ = some (.slice A0_1 l0_1.length c0_1) := (blk_cell BK340.out 1).trans rfl
   have hfz48_0 := blk_frozen BK340.out 0
   have hfz48_1 := blk_frozen BK340.out 1
   go_upto_region 12 with (first | ((with_reducible refine gate_callee (f := 17) rfl ?_); refine goesL_ (some 36) rfl rfl Try.func17 (by kernel_rfl) rfl #[.agg #[.slice A0_0 l0_0.length c0_0, .slice A0_1 l0_1.length c0_1]] rfl lU ?_; (with_reducible refine (laws_toArray.calls k _ _ l0_0 _ _ l0_1 t364 t367 _ ?side1 ?side2 ?side3 ?side4 A22.out).mono ?_); (case side1 => exact Kd.C_below HR0_0.out (bS3 HB.out GE340.out GE341.out GE363.out)); (case side2 => exact HC0_0.out); (case side3 => exact Kd.C_below HR0_1.out (bS3 HB.out GE340.out GE341.out GE363.out)); (case side4 => exact HC0_1.out); rintro e w49 ⟨v365, v368, rfl, ho0, ho1, hb⟩; refine ⟨_, rfl, ?_⟩; replace HO358 := Aside0.mk (Kd.V_mono (Kd.V_told (Kd.V_told (Kd.V_old (by refine VU ?_; exact (Kd.V_mono (Kd.V_far (p := ⟨gb363, 1, none⟩) (Kd.V_far (p := ⟨gb363, 0, none⟩) (Kd.V_mono HO358.out (fun k_ hk => (⟨hk, hk.2.2⟩ : _ ∧ k_ ≠ gb363))) (fun _ hk => hk.2) (.slice Ao43 t356.length co43)) (fun _ hk => hk.2) (.slice Ao45 t359.length co45)) (fun _ h_ => h_.1))) hb) (Kd.R_base ho0)) (Kd.R_base ho1)) (fun _ h_ => h_.1)); replace HO361 := Aside0.mk (Kd.V_mono (Kd.V_told (Kd.V_told (Kd.V_old (by refine VU ?_; exact (Kd.V_mono (Kd.V_far (p := ⟨gb363, 1, none⟩) (Kd.V_far (p := ⟨gb363, 0, none⟩) (Kd.V_mono HO361.out (fun k_ hk => (⟨hk, hk.2.2⟩ : _ ∧ k_ ≠ gb363))) (fun _ hk => hk.2) (.slice Ao43 t356.length co43)) (fun _ hk => hk.2) (.slice Ao45 t359.length co45)) (fun _ h_ => h_.1))) hb) (Kd.R_base ho0)) (Kd.R_base ho1)) (fun _ h_ => h_.1)); have HO366 := Aside0.mk (Kd.R_lower (Kd.R_new' (Kd.R_new' (Kd.R_new' (Kd.R_new' ho0 (Kd.R_lt (by refine RU ?_; exact (far2 HO346.out BK363.out)))) (Kd.R_lt (by refine RU ?_; exact (far2 HO349.out BK363.out)))) (Kd.R_lt (by refine RU ?_; exact (far2 HO352.out BK363.out)))) (Kd.R_lt (by refine RU ?_; exact (far2 HO355.out BK363.out)))) (below_size (bS3 HB.out GE340.out GE341.out GE363.out))); have HO369 := Aside0.mk (Kd.R_lower (Kd.R_new' (Kd.R_new' (Kd.R_new' (Kd.R_new' ho1 (Kd.R_lt (by refine RU ?_; exact (far2 HO346.out BK363.out)))) (Kd.R_lt (by refine RU ?_; exact (far2 HO349.out BK363.out)))) (Kd.R_lt (by refine RU ?_; exact (far2 HO352.out BK363.out)))) (Kd.R_lt (by refine RU ?_; exact (far2 HO355.out BK363.out)))) (below_size (bS3 HB.out GE340.out GE341.out GE363.out))); replace HO346 := Aside0.mk (Kd.R_mono (Kd.R_told (Kd.R_told (Kd.R_old (by refine RU ?_; exact (far2 HO346.out BK363.out)) hb) (Kd.R_base ho0)) (Kd.R_base ho1)) (fun _ h_ => h_.1)); replace HO349 := Aside0.mk (Kd.R_mono (Kd.R_told (Kd.R_told (Kd.R_old (by refine RU ?_; exact (far2 HO349.out BK363.out)) hb) (Kd.R_base ho0)) (Kd.R_base ho1)) (fun _ h_ => h_.1)); replace HO352 := Aside0.mk (Kd.R_mono (Kd.R_told (Kd.R_told (Kd.R_old (by refine RU ?_; exact (far2 HO352.out BK363.out)) hb) (Kd.R_base ho0)) (Kd.R_base ho1)) (fun _ h_ => h_.1)); replace HO355 := Aside0.mk (Kd.R_mono (Kd.R_told (Kd.R_told (Kd.R_old (by refine RU ?_; exact (far2 HO355.out BK363.out)) hb) (Kd.R_base ho0)) (Kd.R_base ho1)) (fun _ h_ => h_.1)); replace BK340 := Aside0.mk (blk_below (g := gb340) (o := .cells #[.slice A0_0 l0_0.length c0_0, .slice A0_1 l0_1.length c0_1] 24 (0, 0)) (by refine kU ?_; refine blk_far ?_ NB340_363.out _; refine kU ?_; refine blk_far ?_ NB340_363.out _; refine kU ?_; exact BK340.out) hb); replace BK341 := Aside0.mk (blk_below (g := gb341) (o := .cells #[.slice A1_0 l1_0.length c1_0, .slice A1_1 l1_1.length c1_1] 24 (0, 0)) (by refine kU ?_; refine blk_far ?_ NB341_363.out _; refine kU ?_; refine blk_far ?_ NB341_363.out _; refine kU ?_; exact BK341.out) hb); replace BK363 := Aside0.mk (blk_below (g := gb363) (o := .cells #[.slice Ao43 t356.length co43, .slice Ao45 t359.length co45] 26 (0, 0)) (by refine kU ?_; refine blk_put (cs := #[.slice Ao43 t356.length co43, .slice none 0 0]) ?_ 1 _ rfl; refine kU ?_; refine blk_put (cs := #[.slice none 0 0, .slice none 0 0]) ?_ 0 _ rfl; refine kU ?_; exact BK363.out) hb); replace HB := Aside0.mk (below_step (bS3 HB.out GE340.out GE341.out GE363.out) hb); (try clear hb); (try clear hb2); (try clear hk); (try clear hi); (try clear ho0); (try clear ho1)) | ((with_reducible refine gate_dst (N := 8) rfl ?_); refine box_event ?hg (N := 8) ?hd (cs := #[.slice none 0 0, .slice none 0 0]) (t := 26) ?hr ?_; (case hd => rfl); (case hg => rfl); (case hr => first | (go_simp; done) | (go_simp; rfl)); intro gb370 hg w50 hbox hb; replace HO346 := Aside0.mk (Kd.R_below (RU HO346.out) hb); replace HO349 := Aside0.mk (Kd.R_below (RU HO349.out) hb); replace HO352 := Aside0.mk (Kd.R_below (RU HO352.out) hb); replace HO355 := Aside0.mk (Kd.R_below (RU HO355.out) hb); replace HO358 := Aside0.mk (Kd.V_below (Kd.V_elderB (VU HO358.out) gb370 (Nat.le_of_eq hg.symm)) hb); replace HO361 := Aside0.mk (Kd.V_below (Kd.V_elderB (VU HO361.out) gb370 (Nat.le_of_eq hg.symm)) hb); replace HO366 := Aside0.mk (Kd.R_below (RU HO366.out) hb); replace HO369 := Aside0.mk (Kd.R_below (RU HO369.out) hb); have BK370 := Aside0.mk (hbox); have GW370 := Aside0.mk ((by rw [hg]; exact (below_size (bS3 HB.out GE340.out GE341.out GE363.out)) : w.heap.size ≤ gb370)); have GE370 := Aside0.mk ((by rw [hg]; exact (below_size (bS3 HB.out GE340.out GE341.out GE363.out)) : w.heap.size ≤ gb370)); replace HB := Aside0.mk (below_step (bS3 HB.out GE340.out GE341.out GE363.out) hb); have NB340_370 := Aside0.mk (kN BK340.out hg); have NB370_340 := Aside0.mk (kM BK340.out hg); replace BK340 := Aside0.mk (kB BK340.out hb); have NB341_370 := Aside0.mk (kN BK341.out hg); have NB370_341 := Aside0.mk (kM BK341.out hg); replace BK341 := Aside0.mk (kB BK341.out hb); have NB363_370 := Aside0.mk (kN BK363.out hg); have NB370_363 := Aside0.mk (kM BK363.out hg); replace BK363 := Aside0.mk (kB BK363.out hb); clear hb hbox hg; obtain ⟨Ao51, co51, eo51⟩ := Kd.R_slice HO366.out; subst eo51; have hnb52 := NB370_340.out; have hnc52 := NB340_370.out; have hnb53 := NB370_341.out; have hnc53 := NB341_370.out; have hnb54 := NB370_363.out; have hnc54 := NB363_370.out; have hcz55_0 : w50.cell? ⟨gb370, 0, none⟩ = some (.slice none 0 0) := (blk_cell BK370.out 0).trans rfl; have hcz55_1 : w50.cell? ⟨gb370, 1, none⟩ = some (.slice none 0 0) := (blk_cell BK370.out 1).trans rfl; have hfz55_0 := blk_frozen BK370.out 0; have hfz55_1 := blk_frozen BK370.out 1; obtain ⟨Ao56, co56, eo56⟩ := Kd.R_slice HO369.out; subst eo56; have hnb57 := NB341_363.out; have hnc57 := NB363_341.out; have hcz58_0 : w50.cell? ⟨gb341, 0, none⟩ = some (.slice A1_0 l1_0.length c1_0) := (blk_cell BK341.out 0).trans rfl; have hcz58_1 : w50.cell? ⟨gb341, 1, none⟩ = some (.slice A1_1 l1_1.length c1_1) := (blk_cell BK341.out 1).trans rfl; have hfz58_0 := blk_frozen BK341.out 0; have hfz58_1 := blk_frozen BK341.out 1) | ((with_reducible refine gate_callee (f := 17) rfl ?_); refine goesL_ (some 38) rfl rfl Try.func17 (by kernel_rfl) rfl #[.agg #[.slice A1_0 l1_0.length c1_0, .slice A1_1 l1_1.length c1_1]] rfl lU ?_; (with_reducible refine (laws_toArray.calls k _ _ l1_0 _ _ l1_1 t371 t374 _ ?side1 ?side2 ?side3 ?side4 A23.out).mono ?_); (case side1 => exact Kd.C_below HR1_0.out (bS4 HB.out GE340.out GE341.out GE363.out GE370.out)); (case side2 => exact HC1_0.out); (case side3 => exact Kd.C_below HR1_1.out (bS4 HB.out GE340.out GE341.out GE363.out GE370.out)); (case side4 => exact HC1_1.out); rintro e w59 ⟨v372, v375, rfl, ho0, ho1, hb⟩; refine ⟨_, rfl, ?_⟩; replace HO358 := Aside0.mk (Kd.V_mono (Kd.V_told (Kd.V_told (Kd.V_old (by refine VU ?_; exact (Kd.V_mono (Kd.V_far (p := ⟨gb370, 1, none⟩) (Kd.V_far (p := ⟨gb370, 0, none⟩) (Kd.V_mono HO358.out (fun k_ hk => (⟨hk, hk.2⟩ : _ ∧ k_ ≠ gb370))) (fun _ hk => hk.2) (.slice Ao51 t364.length co51)) (fun _ hk => hk.2) (.slice Ao56 t367.length co56)) (fun _ h_ => h_.1))) hb) (Kd.R_base ho0)) (Kd.R_base ho1)) (fun _ h_ => h_.1)); replace HO361 := Aside0.mk (Kd.V_mono (Kd.V_told (Kd.V_told (Kd.V_old (by refine VU ?_; exact (Kd.V_mono (Kd.V_far (p := ⟨gb370, 1, none⟩) (Kd.V_far (p := ⟨gb370, 0, none⟩) (Kd.V_mono HO361.out (fun k_ hk => (⟨hk, hk.2⟩ : _ ∧ k_ ≠ gb370))) (fun _ hk => hk.2) (.slice Ao51 t364.length co51)) (fun _ hk => hk.2) (.slice Ao56 t367.length co56)) (fun _ h_ => h_.1))) hb) (Kd.R_base ho0)) (Kd.R_base ho1)) (fun _ h_ => h_.1)); have HO373 := Aside0.mk (Kd.R_lower (Kd.R_new' (Kd.R_new' (Kd.R_new' (Kd.R_new' (Kd.R_new' (Kd.R_new' ho0 (Kd.R_lt (by refine RU ?_; exact (far2 HO346.out BK370.out)))) (Kd.R_lt (by refine RU ?_; exact (far2 HO349.out BK370.out)))) (Kd.R_lt (by refine RU ?_; exact (far2 HO352.out BK370.out)))) (Kd.R_lt (by refine RU ?_; exact (far2 HO355.out BK370.out)))) (Kd.R_lt (by refine RU ?_; exact (far2 HO366.out BK370.out)))) (Kd.R_lt (by refine RU ?_; exact (far2 HO369.out BK370.out)))) (below_size (bS4 HB.out GE340.out GE341.out GE363.out GE370.out))); have HO376 := Aside0.mk (Kd.R_lower (Kd.R_new' (Kd.R_new' (Kd.R_new' (Kd.R_new' (Kd.R_new' (Kd.R_new' ho1 (Kd.R_lt (by refine RU ?_; exact (far2 HO346.out BK370.out)))) (Kd.R_lt (by refine RU ?_; exact (far2 HO349.out BK370.out)))) (Kd.R_lt (by refine RU ?_; exact (far2 HO352.out BK370.out)))) (Kd.R_lt (by refine RU ?_; exact (far2 HO355.out BK370.out)))) (Kd.R_lt (by refine RU ?_; exact (far2 HO366.out BK370.out)))) (Kd.R_lt (by refine RU ?_; exact (far2 HO369.out BK370.out)))) (below_size (bS4 HB.out GE340.out GE341.out GE363.out GE370.out))); replace HO346 := Aside0.mk (Kd.R_mono (Kd.R_told (Kd.R_told (Kd.R_old (by refine RU ?_; exact (far2 HO346.out BK370.out)) hb) (Kd.R_base ho0)) (Kd.R_base ho1)) (fun _ h_ => h_.1)); replace HO349 := Aside0.mk (Kd.R_mono (Kd.R_told (Kd.R_told (Kd.R_old (by refine RU ?_; exact (far2 HO349.out BK370.out)) hb) (Kd.R_base ho0)) (Kd.R_base ho1)) (fun _ h_ => h_.1)); replace HO352 := Aside0.mk (Kd.R_mono (Kd.R_told (Kd.R_told (Kd.R_old (by refine RU ?_; exact (far2 HO352.out BK370.out)) hb) (Kd.R_base ho0)) (Kd.R_base ho1)) (fun _ h_ => h_.1)); replace HO355 := Aside0.mk (Kd.R_mono (Kd.R_told (Kd.R_told (Kd.R_old (by refine RU ?_; exact (far2 HO355.out BK370.out)) hb) (Kd.R_base ho0)) (Kd.R_base ho1)) (fun _ h_ => h_.1)); replace HO366 := Aside0.mk (Kd.R_mono (Kd.R_told (Kd.R_told (Kd.R_old (by refine RU ?_; exact (far2 HO366.out BK370.out)) hb) (Kd.R_base ho0)) (Kd.R_base ho1)) (fun _ h_ => h_.1)); replace HO369 := Aside0.mk (Kd.R_mono (Kd.R_told (Kd.R_told (Kd.R_old (by refine RU ?_; exact (far2 HO369.out BK370.out)) hb) (Kd.R_base ho0)) (Kd.R_base ho1)) (fun _ h_ => h_.1)); replace BK340 := Aside0.mk (blk_below (g := gb340) (o := .cells #[.slice A0_0 l0_0.length c0_0, .slice A0_1 l0_1.length c0_1] 24 (0, 0)) (by refine kU ?_; refine blk_far ?_ NB340_370.out _; refine kU ?_; refine blk_far ?_ NB340_370.out _; refine kU ?_; exact BK340.out) hb); replace BK341 := Aside0.mk (blk_below (g := gb341) (o := .cells #[.slice A1_0 l1_0.length c1_0, .slice A1_1 l1_1.length c1_1] 24 (0, 0)) (by refine kU ?_; refine blk_far ?_ NB341_370.out _; refine kU ?_; refine blk_far ?_ NB341_370.out _; refine kU ?_; exact BK341.out) hb); replace BK363 := Aside0.mk (blk_below (g := gb363) (o := .cells #[.slice Ao43 t356.length co43, .slice Ao45 t359.length co45] 26 (0, 0)) (by refine kU ?_; refine blk_far ?_ NB363_370.out _; refine kU ?_; refine blk_far ?_ NB363_370.out _; refine kU ?_; exact BK363.out) hb); replace BK370 := Aside0.mk (blk_below (g := gb370) (o := .cells #[.slice Ao51 t364.length co51, .slice Ao56 t367.length co56] 26 (0, 0)) (by refine kU ?_; refine blk_put (cs := #[.slice Ao51 t364.length co51, .slice none 0 0]) ?_ 1 _ rfl; refine kU ?_; refine blk_put (cs := #[.slice none 0 0, .slice none 0 0]) ?_ 0 _ rfl; refine kU ?_; exact BK370.out) hb); replace HB := Aside0.mk (below_step (bS4 HB.out GE340.out GE341.out GE363.out GE370.out) hb); (try clear hb); (try clear hb2); (try clear hk); (try clear hi); (try clear ho0); (try clear ho1)) | ((with_reducible refine gate_dst (N := 9) rfl ?_); refine box_event ?hg (N := 9) ?hd (cs := #[.slice none 0 0, .slice none 0 0]) (t := 26) ?hr ?_; (case hd => rfl); (case hg => rfl); (case hr => first | (go_simp; done) | (go_simp; rfl)); intro gb377 hg w60 hbox hb; replace HO346 := Aside0.mk (Kd.R_below (RU HO346.out) hb); replace HO349 := Aside0.mk (Kd.R_below (RU HO349.out) hb); replace HO352 := Aside0.mk (Kd.R_below (RU HO352.out) hb); replace HO355 := Aside0.mk (Kd.R_below (RU HO355.out) hb); replace HO358 := Aside0.mk (Kd.V_below (Kd.V_elderB (VU HO358.out) gb377 (Nat.le_of_eq hg.symm)) hb); replace HO361 := Aside0.mk (Kd.V_below (Kd.V_elderB (VU HO361.out) gb377 (Nat.le_of_eq hg.symm)) hb); replace HO366 := Aside0.mk (Kd.R_below (RU HO366.out) hb); replace HO369 := Aside0.mk (Kd.R_below (RU HO369.out) hb); replace HO373 := Aside0.mk (Kd.R_below (RU HO373.out) hb); replace HO376 := Aside0.mk (Kd.R_below (RU HO376.out) hb); have BK377 := Aside0.mk (hbox); have GW377 := Aside0.mk ((by rw [hg]; exact (below_size (bS4 HB.out GE340.out GE341.out GE363.out GE370.out)) : w.heap.size ≤ gb377)); have GE377 := Aside0.mk ((by rw [hg]; exact (below_size (bS4 HB.out GE340.out GE341.out GE363.out GE370.out)) : w.heap.size ≤ gb377)); replace HB := Aside0.mk (below_step (bS4 HB.out GE340.out GE341.out GE363.out GE370.out) hb); have NB340_377 := Aside0.mk (kN BK340.out hg); have NB377_340 := Aside0.mk (kM BK340.out hg); replace BK340 := Aside0.mk (kB BK340.out hb); have NB341_377 := Aside0.mk (kN BK341.out hg); have NB377_341 := Aside0.mk (kM BK341.out hg); replace BK341 := Aside0.mk (kB BK341.out hb); have NB363_377 := Aside0.mk (kN BK363.out hg); have NB377_363 := Aside0.mk (kM BK363.out hg); replace BK363 := Aside0.mk (kB BK363.out hb); have NB370_377 := Aside0.mk (kN BK370.out hg); have NB377_370 := Aside0.mk (kM BK370.out hg); replace BK370 := Aside0.mk (kB BK370.out hb); clear hb hbox hg; obtain ⟨Ao61, co61, eo61⟩ := Kd.R_slice HO373.out; subst eo61; have hnb62 := NB377_340.out; have hnc62 := NB340_377.out; have hnb63 := NB377_341.out; have hnc63 := NB341_377.out; have hnb64 := NB377_363.out; have hnc64 := NB363_377.out; have hnb65 := NB377_370.out; have hnc65 := NB370_377.out; have hcz66_0 : w60.cell? ⟨gb377, 0, none⟩ = some (.slice none 0 0) := (blk_cell BK377.out 0).trans rfl; have hcz66_1 : w60.cell? ⟨gb377, 1, none⟩ = some (.slice none 0 0) := (blk_cell BK377.out 1).trans rfl; have hfz66_0 := blk_frozen BK377.out 0; have hfz66_1 := blk_frozen BK377.out 1; obtain ⟨Ao67, co67, eo67⟩ := Kd.R_slice HO376.out; subst eo67; have hcz68_0 : w60.cell? ⟨gb370, 0, none⟩ = some (.slice Ao51 t364.length co51) := (blk_cell BK370.out 0).trans rfl; have hcz68_1 : w60.cell? ⟨gb370, 1, none⟩ = some (.slice Ao56 t367.length co56) := (blk_cell BK370.out 1).trans rfl; have hfz68_0 := blk_frozen BK370.out 0; have hfz68_1 := blk_frozen BK370.out 1) | ((with_reducible refine gate_callee (f := 51) rfl ?_); refine goesL_ (some 42) rfl rfl Try.func51 (by kernel_rfl) rfl #[.agg #[.slice Ao51 t364.length co51, .slice Ao56 t367.length co56], .agg #[.slice Ao61 t371.length co61, .slice Ao67 t374.length co67]] rfl lU ?_; (with_reducible refine (impl_Join.calls k _ _ t364 _ _ t367 _ _ t371 _ _ t374 t378 t381 t384 _ ?side1 ?side2 ?side3 ?side4 ?side5 ?side6 ?side7 ?side8 A24.out).mono ?_); (case side1 => refine (Kd.R_reads' (e := 3) (base := w.heap.size) (ok := fun k_ => ((((((some k_ ≠ (.slice Ao56 t367.length co56 : Value).ownBlock ∧ some k_ ≠ (v345 : Value).ownBlock) ∧ some k_ ≠ (v348 : Value).ownBlock) ∧ some k_ ≠ (v351 : Value).ownBlock) ∧ some k_ ≠ (v354 : Value).ownBlock) ∧ some k_ ≠ (.slice Ao61 t371.length co61 : Value).ownBlock) ∧ some k_ ≠ (.slice Ao67 t374.length co67 : Value).ownBlock)) (n := t364.length) (c := co51) ?_).2.2; exact (by refine RU ?_; exact (far2 HO366.out BK377.out))); (case side2 => exact (Kd.R_reads' HO366.out).2.1); (case side3 => refine (Kd.R_reads' (e := 3) (base := w.heap.size) (ok := fun k_ => ((((((some k_ ≠ (.slice Ao51 t364.length co51 : Value).ownBlock ∧ some k_ ≠ (v345 : Value).ownBlock) ∧ some k_ ≠ (v348 : Value).ownBlock) ∧ some k_ ≠ (v351 : Value).ownBlock) ∧ some k_ ≠ (v354 : Value).ownBlock) ∧ some k_ ≠ (.slice Ao61 t371.length co61 : Value).ownBlock) ∧ some k_ ≠ (.slice Ao67 t374.length co67 : Value).ownBlock)) (n := t367.length) (c := co56) ?_).2.2; exact (by refine RU ?_; exact (far2 HO369.out BK377.out))); (case side4 => exact (Kd.R_reads' HO369.out).2.1); (case side5 => refine (Kd.R_reads' (e := 3) (base := w.heap.size) (ok := fun k_ => ((((((some k_ ≠ (.slice Ao67 t374.length co67 : Value).ownBlock ∧ some k_ ≠ (v345 : Value).ownBlock) ∧ some k_ ≠ (v348 : Value).ownBlock) ∧ some k_ ≠ (v351 : Value).ownBlock) ∧ some k_ ≠ (v354 : Value).ownBlock) ∧ some k_ ≠ (.slice Ao51 t364.length co51 : Value).ownBlock) ∧ some k_ ≠ (.slice Ao56 t367.length co56 : Value).ownBlock)) (n := t371.length) (c := co61) ?_).2.2; exact (by refine RU ?_; exact (far2 HO373.out BK377.out))); (case side6 => exact (Kd.R_reads' HO373.out).2.1); (case side7 => refine (Kd.R_reads' (e := 3) (base := w.heap.size) (ok := fun k_ => ((((((some k_ ≠ (.slice Ao61 t371.length co61 : Value).ownBlock ∧ some k_ ≠ (v345 : Value).ownBlock) ∧ some k_ ≠ (v348 : Value).ownBlock) ∧ some k_ ≠ (v351 : Value).ownBlock) ∧ some k_ ≠ (v354 : Value).ownBlock) ∧ some k_ ≠ (.slice Ao51 t364.length co51 : Value).ownBlock) ∧ some k_ ≠ (.slice Ao56 t367.length co56 : Value).ownBlock)) (n := t374.length) (c := co67) ?_).2.2; exact (by refine RU ?_; exact (far2 HO376.out BK377.out))); (case side8 => exact (Kd.R_reads' HO376.out).2.1); rintro e w69 ⟨v379, v382, rfl, ho0, ho1, hb⟩; refine ⟨_, rfl, ?_⟩; replace HO358 := Aside0.mk (Kd.V_mono (Kd.V_told (Kd.V_told (Kd.V_old (by refine VU ?_; exact (Kd.V_mono (Kd.V_far (p := ⟨gb377, 1, none⟩) (Kd.V_far (p := ⟨gb377, 0, none⟩) (Kd.V_mono HO358.out (fun k_ hk => (⟨hk, hk.2⟩ : _ ∧ k_ ≠ gb377))) (fun _ hk => hk.2) (.slice Ao61 t371.length co61)) (fun _ hk => hk.2) (.slice Ao67 t374.length co67)) (fun _ h_ => h_.1))) hb) (Kd.R_base ho0)) (Kd.R_base ho1)) (fun _ h_ => h_.1)); replace HO361 := Aside0.mk (Kd.V_mono (Kd.V_told (Kd.V_told (Kd.V_old (by refine VU ?_; exact (Kd.V_mono (Kd.V_far (p := ⟨gb377, 1, none⟩) (Kd.V_far (p := ⟨gb377, 0, none⟩) (Kd.V_mono HO361.out (fun k_ hk => (⟨hk, hk.2⟩ : _ ∧ k_ ≠ gb377))) (fun _ hk => hk.2) (.slice Ao61 t371.length co61)) (fun _ hk => hk.2) (.slice Ao67 t374.length co67)) (fun _ h_ => h_.1))) hb) (Kd.R_base ho0)) (Kd.R_base ho1)) (fun _ h_ => h_.1)); have HO380 := Aside0.mk (Kd.R_lower (Kd.R_new' (Kd.R_new' (Kd.R_new' (Kd.R_new' (Kd.R_new' (Kd.R_new' (Kd.R_new' (Kd.R_new' ho0 (Kd.R_lt (by refine RU ?_; exact (far2 HO346.out BK377.out)))) (Kd.R_lt (by refine RU ?_; exact (far2 HO349.out BK377.out)))) (Kd.R_lt (by refine RU ?_; exact (far2 HO352.out BK377.out)))) (Kd.R_lt (by refine RU ?_; exact (far2 HO355.out BK377.out)))) (Kd.R_lt (by refine RU ?_; exact (far2 HO366.out BK377.out)))) (Kd.R_lt (by refine RU ?_; exact (far2 HO369.out BK377.out)))) (Kd.R_lt (by refine RU ?_; exact (far2 HO373.out BK377.out)))) (Kd.R_lt (by refine RU ?_; exact (far2 HO376.out BK377.out)))) (below_size (bS5 HB.out GE340.out GE341.out GE363.out GE370.out GE377.out))); have HO383 := Aside0.mk (Kd.R_lower (Kd.R_new' (Kd.R_new' (Kd.R_new' (Kd.R_new' (Kd.R_new' (Kd.R_new' (Kd.R_new' (Kd.R_new' ho1 (Kd.R_lt (by refine RU ?_; exact (far2 HO346.out BK377.out)))) (Kd.R_lt (by refine RU ?_; exact (far2 HO349.out BK377.out)))) (Kd.R_lt (by refine RU ?_; exact (far2 HO352.out BK377.out)))) (Kd.R_lt (by refine RU ?_; exact (far2 HO355.out BK377.out)))) (Kd.R_lt (by refine RU ?_; exact (far2 HO366.out BK377.out)))) (Kd.R_lt (by refine RU ?_; exact (far2 HO369.out BK377.out)))) (Kd.R_lt (by refine RU ?_; exact (far2 HO373.out BK377.out)))) (Kd.R_lt (by refine RU ?_; exact (far2 HO376.out BK377.out)))) (below_size (bS5 HB.out GE340.out GE341.out GE363.out GE370.out GE377.out))); replace HO346 := Aside0.mk (Kd.R_mono (Kd.R_told (Kd.R_told (Kd.R_old (by refine RU ?_; exact (far2 HO346.out BK377.out)) hb) (Kd.R_base ho0)) (Kd.R_base ho1)) (fun _ h_ => h_.1)); replace HO349 := Aside0.mk (Kd.R_mono (Kd.R_told (Kd.R_told (Kd.R_old (by refine RU ?_; exact (far2 HO349.out BK377.out)) hb) (Kd.R_base ho0)) (Kd.R_base ho1)) (fun _ h_ => h_.1)); replace HO352 := Aside0.mk (Kd.R_mono (Kd.R_told (Kd.R_told (Kd.R_old (by refine RU ?_; exact (far2 HO352.out BK377.out)) hb) (Kd.R_base ho0)) (Kd.R_base ho1)) (fun _ h_ => h_.1)); replace HO355 := Aside0.mk (Kd.R_mono (Kd.R_told (Kd.R_told (Kd.R_old (by refine RU ?_; exact (far2 HO355.out BK377.out)) hb) (Kd.R_base ho0)) (Kd.R_base ho1)) (fun _ h_ => h_.1)); replace HO366 := Aside0.mk (Kd.R_mono (Kd.R_told (Kd.R_told (Kd.R_old (by refine RU ?_; exact (far2 HO366.out BK377.out)) hb) (Kd.R_base ho0)) (Kd.R_base ho1)) (fun _ h_ => h_.1)); replace HO369 := Aside0.mk (Kd.R_mono (Kd.R_told (Kd.R_told (Kd.R_old (by refine RU ?_; exact (far2 HO369.out BK377.out)) hb) (Kd.R_base ho0)) (Kd.R_base ho1)) (fun _ h_ => h_.1)); replace HO373 := Aside0.mk (Kd.R_mono (Kd.R_told (Kd.R_told (Kd.R_old (by refine RU ?_; exact (far2 HO373.out BK377.out)) hb) (Kd.R_base ho0)) (Kd.R_base ho1)) (fun _ h_ => h_.1)); replace HO376 := Aside0.mk (Kd.R_mono (Kd.R_told (Kd.R_told (Kd.R_old (by refine RU ?_; exact (far2 HO376.out BK377.out)) hb) (Kd.R_base ho0)) (Kd.R_base ho1)) (fun _ h_ => h_.1)); replace BK340 := Aside0.mk (blk_below (g := gb340) (o := .cells #[.slice A0_0 l0_0.length c0_0, .slice A0_1 l0_1.length c0_1] 24 (0, 0)) (by refine kU ?_; refine blk_far ?_ NB340_377.out _; refine kU ?_; refine blk_far ?_ NB340_377.out _; refine kU ?_; exact BK340.out) hb); replace BK341 := Aside0.mk (blk_below (g := gb341) (o := .cells #[.slice A1_0 l1_0.length c1_0, .slice A1_1 l1_1.length c1_1] 24 (0, 0)) (by refine kU ?_; refine blk_far ?_ NB341_377.out _; refine kU ?_; refine blk_far ?_ NB341_377.out _; refine kU ?_; exact BK341.out) hb); replace BK363 := Aside0.mk (blk_below (g := gb363) (o := .cells #[.slice Ao43 t356.length co43, .slice Ao45 t359.length co45] 26 (0, 0)) (by refine kU ?_; refine blk_far ?_ NB363_377.out _; refine kU ?_; refine blk_far ?_ NB363_377.out _; refine kU ?_; exact BK363.out) hb); replace BK370 := Aside0.mk (blk_below (g := gb370) (o := .cells #[.slice Ao51 t364.length co51, .slice Ao56 t367.length co56] 26 (0, 0)) (by refine kU ?_; refine blk_far ?_ NB370_377.out _; refine kU ?_; refine blk_far ?_ NB370_377.out _; refine kU ?_; exact BK370.out) hb); replace BK377 := Aside0.mk (blk_below (g := gb377) (o := .cells #[.slice Ao61 t371.length co61, .slice Ao67 t374.length co67] 26 (0, 0)) (by refine kU ?_; refine blk_put (cs := #[.slice Ao61 t371.length co61, .slice none 0 0]) ?_ 1 _ rfl; refine kU ?_; refine blk_put (cs := #[.slice none 0 0, .slice none 0 0]) ?_ 0 _ rfl; refine kU ?_; exact BK377.out) hb); replace HB := Aside0.mk (below_step (bS5 HB.out GE340.out GE341.out GE363.out GE370.out GE377.out) hb); (try clear hb); (try clear hb2); (try clear hk); (try clear hi); (try clear ho0); (try clear ho1)) | ((with_reducible refine gate_dst (N := 10) rfl ?_); refine box_event ?hg (N := 10) ?hd (cs := #[.slice none 0 0, .slice none 0 0]) (t := 26) ?hr ?_; (case hd => rfl); (case hg => rfl); (case hr => first | (go_simp; done) | (go_simp; rfl)); intro gb385 hg w70 hbox hb; replace HO346 := Aside0.mk (Kd.R_below (RU HO346.out) hb); replace HO349 := Aside0.mk (Kd.R_below (RU HO349.out) hb); replace HO352 := Aside0.mk (Kd.R_below (RU HO352.out) hb); replace HO355 := Aside0.mk (Kd.R_below (RU HO355.out) hb); replace HO358 := Aside0.mk (Kd.V_below (Kd.V_elderB (VU HO358.out) gb385 (Nat.le_of_eq hg.symm)) hb); replace HO361 := Aside0.mk (Kd.V_below (Kd.V_elderB (VU HO361.out) gb385 (Nat.le_of_eq hg.symm)) hb); replace HO366 := Aside0.mk (Kd.R_below (RU HO366.out) hb); replace HO369 := Aside0.mk (Kd.R_below (RU HO369.out) hb); replace HO373 := Aside0.mk (Kd.R_below (RU HO373.out) hb); replace HO376 := Aside0.mk (Kd.R_below (RU HO376.out) hb); replace HO380 := Aside0.mk (Kd.R_below (RU HO380.out) hb); replace HO383 := Aside0.mk (Kd.R_below (RU HO383.out) hb); have BK385 := Aside0.mk (hbox); have GW385 := Aside0.mk ((by rw [hg]; exact (below_size (bS5 HB.out GE340.out GE341.out GE363.out GE370.out GE377.out)) : w.heap.size ≤ gb385)); have GE385 := Aside0.mk ((by rw [hg]; exact (below_size (bS5 HB.out GE340.out GE341.out GE363.out GE370.out GE377.out)) : w.heap.size ≤ gb385)); replace HB := Aside0.mk (below_step (bS5 HB.out GE340.out GE341.out GE363.out GE370.out GE377.out) hb); have NB340_385 := Aside0.mk (kN BK340.out hg); have NB385_340 := Aside0.mk (kM BK340.out hg); replace BK340 := Aside0.mk (kB BK340.out hb); have NB341_385 := Aside0.mk (kN BK341.out hg); have NB385_341 := Aside0.mk (kM BK341.out hg); replace BK341 := Aside0.mk (kB BK341.out hb); have NB363_385 := Aside0.mk (kN BK363.out hg); have NB385_363 := Aside0.mk (kM BK363.out hg); replace BK363 := Aside0.mk (kB BK363.out hb); have NB370_385 := Aside0.mk (kN BK370.out hg); have NB385_370 := Aside0.mk (kM BK370.out hg); replace BK370 := Aside0.mk (kB BK370.out hb); have NB377_385 := Aside0.mk (kN BK377.out hg); have NB385_377 := Aside0.mk (kM BK377.out hg); replace BK377 := Aside0.mk (kB BK377.out hb); clear hb hbox hg; obtain ⟨Ao71, co71, eo71⟩ := Kd.R_slice HO380.out; subst eo71; have hnb72 := NB385_340.out; have hnc72 := NB340_385.out; have hnb73 := NB385_341.out; have hnc73 := NB341_385.out; have hnb74 := NB385_363.out; have hnc74 := NB363_385.out; have hnb75 := NB385_370.out; have hnc75 := NB370_385.out; have hnb76 := NB385_377.out; have hnc76 := NB377_385.out; have hcz77_0 : w70.cell? ⟨gb385, 0, none⟩ = some (.slice none 0 0) := (blk_cell BK385.out 0).trans rfl; have hcz77_1 : w70.cell? ⟨gb385, 1, none⟩ = some (.slice none 0 0) := (blk_cell BK385.out 1).trans rfl; have hfz77_0 := blk_frozen BK385.out 0; have hfz77_1 := blk_frozen BK385.out 1; obtain ⟨Ao78, co78, eo78⟩ := Kd.R_slice HO383.out; subst eo78))
   (try simp only [Act.put, List.setIfInBounds_toArray, List.set_cons_zero, List.set_cons_succ])
   go_cut [53] (fun v53 wc => ∃ (kq : Nat) (x53_24 : Bool), v53 = .bool x53_24 ∧ Aside0 (laws_FnExactJoin.j0 kq t362 t384 x53_24 l0_0 l0_1 l1_0 l1_1 t356 t359 t364 t367 t371 t374 t378 t381 = some r) ∧ Aside0 (kq ≤ k) ∧ Aside0 (Kd.V (Kd.int .i64) 3 wc w.heap.size (fun k_ => some k_ ≠ ((.slice Ao51 t364.length co51) : Value).ownBlock ∧ some k_ ≠ ((.slice Ao56 t367.length co56) : Value).ownBlock ∧ some k_ ≠ ((.slice Ao61 t371.length co61) : Value).ownBlock ∧ some k_ ≠ ((.slice Ao67 t374.length co67) : Value).ownBlock ∧ some k_ ≠ ((.slice Ao71 t378.length co71) : Value).ownBlock ∧ some k_ ≠ ((.slice Ao78 t381.length co78) : Value).ownBlock ∧ k_ ≠ gb340 ∧ k_ ≠ gb341 ∧ k_ ≠ gb363 ∧ k_ ≠ gb370 ∧ k_ ≠ gb377 ∧ k_ ≠ gb385) (.slice Ao43 t356.length co43) t356) ∧ Aside0 (Kd.V (Kd.int .i64) 3 wc w.heap.size (fun k_ => some k_ ≠ ((.slice Ao51 t364.length co51) : Value).ownBlock ∧ some k_ ≠ ((.slice Ao56 t367.length co56) : Value).ownBlock ∧ some k_ ≠ ((.slice Ao61 t371.length co61) : Value).ownBlock ∧ some k_ ≠ ((.slice Ao67 t374.length co67) : Value).ownBlock ∧ some k_ ≠ ((.slice Ao71 t378.length co71) : Value).ownBlock ∧ some k_ ≠ ((.slice Ao78 t381.length co78) : Value).ownBlock ∧ k_ ≠ gb340 ∧ k_ ≠ gb341 ∧ k_ ≠ gb363 ∧ k_ ≠ gb370 ∧ k_ ≠ gb377 ∧ k_ ≠ gb385) (.slice Ao45 t359.length co45) t359) ∧ Aside0 (Kd.R (Kd.int .i64) 3 wc w.heap.size (fun k_ => some k_ ≠ ((.slice Ao56 t367.length co56) : Value).ownBlock ∧ some k_ ≠ ((.slice Ao61 t371.length co61) : Value).ownBlock ∧ some k_ ≠ ((.slice Ao67 t374.length co67) : Value).ownBlock ∧ some k_ ≠ ((.slice Ao71 t378.length co71) : Value).ownBlock ∧ some k_ ≠ ((.slice Ao78 t381.length co78) : Value).ownBlock) (.slice Ao51 t364.length co51) t364) ∧ Aside0 (Kd.R (Kd.int .i64) 3 wc w.heap.size (fun k_ => some k_ ≠ ((.slice Ao51 t364.length co51) : Value).ownBlock ∧ some k_ ≠ ((.slice Ao61 t371.length co61) : Value).ownBlock ∧ some k_ ≠ ((.slice Ao67 t374.length co67) : Value).ownBlock ∧ some k_ ≠ ((.slice Ao71 t378.length co71) : Value).ownBlock ∧ some k_ ≠ ((.slice Ao78 t381.length co78) : Value).ownBlock) (.slice Ao56 t367.length co56) t367) ∧ Aside0 (Kd.R (Kd.int .i64) 3 wc w.heap.size (fun k_ => some k_ ≠ ((.slice Ao51 t364.length co51) : Value).ownBlock ∧ some k_ ≠ ((.slice Ao56 t367.length co56) : Value).ownBlock ∧ some k_ ≠ ((.slice Ao67 t374.length co67) : Value).ownBlock ∧ some k_ ≠ ((.slice Ao71 t378.length co71) : Value).ownBlock ∧ some k_ ≠ ((.slice Ao78 t381.length co78) : Value).ownBlock) (.slice Ao61 t371.length co61) t371) ∧ Aside0 (Kd.R (Kd.int .i64) 3 wc w.heap.size (fun k_ => some k_ ≠ ((.slice Ao51 t364.length co51) : Value).ownBlock ∧ some k_ ≠ ((.slice Ao56 t367.length co56) : Value).ownBlock ∧ some k_ ≠ ((.slice Ao61 t371.length co61) : Value).ownBlock ∧ some k_ ≠ ((.slice Ao71 t378.length co71) : Value).ownBlock ∧ some k_ ≠ ((.slice Ao78 t381.length co78) : Value).ownBlock) (.slice Ao67 t374.length co67) t374) ∧ Aside0 (Kd.R (Kd.int .i64) 3 wc w.heap.size (fun k_ => some k_ ≠ ((.slice Ao51 t364.length co51) : Value).ownBlock ∧ some k_ ≠ ((.slice Ao56 t367.length co56) : Value).ownBlock ∧ some k_ ≠ ((.slice Ao61 t371.length co61) : Value).ownBlock ∧ some k_ ≠ ((.slice Ao67 t374.length co67) : Value).ownBlock ∧ some k_ ≠ ((.slice Ao78 t381.length co78) : Value).ownBlock) (.slice Ao71 t378.length co71) t378) ∧ Aside0 (Kd.R (Kd.int .i64) 3 wc w.heap.size (fun k_ => some k_ ≠ ((.slice Ao51 t364.length co51) : Value).ownBlock ∧ some k_ ≠ ((.slice Ao56 t367.length co56) : Value).ownBlock ∧ some k_ ≠ ((.slice Ao61 t371.length co61) : Value).ownBlock ∧ some k_ ≠ ((.slice Ao67 t374.length co67) : Value).ownBlock ∧ some k_ ≠ ((.slice Ao71 t378.length co71) : Value).ownBlock) (.slice Ao78 t381.length co78) t381) ∧ Aside0 (wc.heap[gb340]? = some (.cells #[(.slice A0_0 l0_0.length c0_0), (.slice A0_1 l0_1.length c0_1)] 24 (0, 0))) ∧ Aside0 (wc.heap[gb341]? = some (.cells #[(.slice A1_0 l1_0.length c1_0), (.slice A1_1 l1_1.length c1_1)] 24 (0, 0))) ∧ Aside0 (wc.heap[gb363]? = some (.cells #[(.slice Ao43 t356.length co43), (.slice Ao45 t359.length co45)] 26 (0, 0))) ∧ Aside0 (wc.heap[gb370]? = some (.cells #[(.slice Ao51 t364.length co51), (.slice Ao56 t367.length co56)] 26 (0, 0))) ∧ Aside0 (wc.heap[gb377]? = some (.cells #[(.slice Ao61 t371.length co61), (.slice Ao67 t374.length co67)] 26 (0, 0))) ∧ Aside0 (wc.heap[gb385]? = some (.cells #[(.slice Ao71 t378.length co71), (.slice Ao78 t381.length co78)] 26 (0, 0))) ∧ Aside0 (Below w.heap.size w wc))
   case first =>
    have H := HC25.out
    clear HC25
    replace H := Option.bind_eq_some_iff.mp H
    obtain ⟨t386, A790, H⟩ := H
    replace H : (if t386 = true then (laws_FnExactJoin.j0 k t362 t384 (t384 != t362) l0_0 l0_1 l1_0 l1_1 t356 t359 t364 t367 t371 t374 t378 t381) else (laws_FnExactJoin.j0 k t362 t384 true l0_0 l0_1 l1_0 l1_1 t356 t359 t364 t367 t371 t374 t378 t381)) = some r := H
    have A79 := Aside0.mk A790
    clear A790
    by_cases c80 : t386 = true
    ·
     subst c80
     have H1 : (laws_FnExactJoin.j0 k t362 t384 (t384 != t362) l0_0 l0_1 l1_0 l1_1 t356 t359 t364 t367 t371 t374 t378 t381) = some r := by rw [if_pos rfl] at H; exact H
     clear H
     have H := H1
     clear H1
     have H' := Aside0.mk H
     clear H
     have hnb81 := NB385_340.out
     have hnc81 := NB340_385.out
     have hnb82 := NB385_341.out
     have hnc82 := NB341_385.out
     have hnb83 := NB385_363.out
     have hnc83 := NB363_385.out
     have hnb84 := NB385_370.out
     have hnc84 := NB370_385.out
     have hnb85 := NB385_377.out
     have hnc85 := NB377_385.out
     have hcz86_0 : w70.cell? ⟨gb385, 0, none⟩ = some (.slice none 0 0) := (blk_cell BK385.out 0).trans rfl
     have hcz86_1 : w70.cell? ⟨gb385, 1, none⟩ = some (.slice none 0 0) := (blk_cell BK385.out 1).trans rfl
     have hfz86_0 := blk_frozen BK385.out 0
     have hfz86_1 := blk_frozen BK385.out 1
     have hnb87 := NB363_340.out
     have hnc87 := NB340_363.out
     have hnb88 := NB363_341.out
     have hnc88 := NB341_363.out
     have hnb89 := NB363_370.out
     have hnc89 := NB370_363.out
     have hnb90 := NB363_377.out
     have hnc90 := NB377_363.out
     have hcz91_0 : w70.cell? ⟨gb363, 0, none⟩ = some (.slice Ao43 t356.length co43) := (blk_cell BK363.out 0).trans rfl
     have hcz91_1 : w70.cell? ⟨gb363, 1, none⟩ = some (.slice Ao45 t359.length co45) := (blk_cell BK363.out 1).trans rfl
     have hfz91_0 := blk_frozen BK363.out 0
     have hfz91_1 := blk_frozen BK363.out 1
     go_wp2_with (first | ((with_reducible refine gate_callee (f := 19) rfl ?_); refine goesL_ (some 47) rfl rfl Try.func19 (by kernel_rfl) rfl #[.agg #[.slice Ao71 t378.length co71, .slice Ao78 t381.length co78], .agg #[.slice Ao43 t356.length co43, .slice Ao45 t359.length co45]] rfl lU ?_; (with_reducible refine (laws_eqArray.calls k _ _ t378 _ _ t381 _ _ t356 _ _ t359 true _ ?side1 ?side2 ?side3 ?side4 ?side5 ?side6 ?side7 ?side8 A79.out).mono ?_); (case side1 => refine (Kd.R_reads' (e := 3) (base := w.heap.size) (ok := fun k_ => ((((((((some k_ ≠ (.slice Ao78 t381.length co78 : Value).ownBlock ∧ some k_ ≠ (v345 : Value).ownBlock) ∧ some k_ ≠ (v348 : Value).ownBlock) ∧ some k_ ≠ (v351 : Value).ownBlock) ∧ some k_ ≠ (v354 : Value).ownBlock) ∧ some k_ ≠ (.slice Ao51 t364.length co51 : Value).ownBlock) ∧ some k_ ≠ (.slice Ao56 t367.length co56 : Value).ownBlock) ∧ some k_ ≠ (.slice Ao61 t371.length co61 : Value).ownBlock) ∧ some k_ ≠ (.slice Ao67 t374.length co67 : Value).ownBlock)) (n := t378.length) (c := co71) ?_).2.2; exact (by refine RU ?_; exact (far2 HO380.out BK385.out))); (case side2 => exact (Kd.R_reads' HO380.out).2.1); (case side3 => refine (Kd.R_reads' (e := 3) (base := w.heap.size) (ok := fun k_ => ((((((((some k_ ≠ (.slice Ao71 t378.length co71 : Value).ownBlock ∧ some k_ ≠ (v345 : Value).ownBlock) ∧ some k_ ≠ (v348 : Value).ownBlock) ∧ some k_ ≠ (v351 : Value).ownBlock) ∧ some k_ ≠ (v354 : Value).ownBlock) ∧ some k_ ≠ (.slice Ao51 t364.length co51 : Value).ownBlock) ∧ some k_ ≠ (.slice Ao56 t367.length co56 : Value).ownBlock) ∧ some k_ ≠ (.slice Ao61 t371.length co61 : Value).ownBlock) ∧ some k_ ≠ (.slice Ao67 t374.length co67 : Value).ownBlock)) (n := t381.length) (c := co78) ?_).2.2; exact (by refine RU ?_; exact (far2 HO383.out BK385.out))); (case side4 => exact (Kd.R_reads' HO383.out).2.1); (case side5 => refine (Kd.V_reads' (e := 3) (base := w.heap.size) (ok := fun k_ => ((((((((((k_ ≠ gb340 ∧ (k_ ≠ gb341 ∧ k_ ≠ gb363)) ∧ some k_ ≠ (.slice Ao51 t364.length co51 : Value).ownBlock) ∧ some k_ ≠ (.slice Ao56 t367.length co56 : Value).ownBlock) ∧ k_ ≠ gb370) ∧ some k_ ≠ (.slice Ao61 t371.length co61 : Value).ownBlock) ∧ some k_ ≠ (.slice Ao67 t374.length co67 : Value).ownBlock) ∧ k_ ≠ gb377) ∧ some k_ ≠ (.slice Ao71 t378.length co71 : Value).ownBlock) ∧ some k_ ≠ (.slice Ao78 t381.length co78 : Value).ownBlock) ∧ k_ ≠ gb385)) (n := t356.length) (c := co43) ?_).2.2; exact (by refine VU ?_; exact (Kd.V_mono (Kd.V_far (p := ⟨gb385, 1, none⟩) (Kd.V_far (p := ⟨gb385, 0, none⟩) (Kd.V_mono HO358.out (fun k_ hk => (⟨hk, hk.2⟩ : _ ∧ k_ ≠ gb385))) (fun _ hk => hk.2) (.slice Ao71 t378.length co71)) (fun _ hk => hk.2) (.slice Ao78 t381.length co78)) (fun _ h_ => h_.1)))); (case side6 => exact (Kd.V_reads' HO358.out).2.1); (case side7 => refine (Kd.V_reads' (e := 3) (base := w.heap.size) (ok := fun k_ => ((((((((((k_ ≠ gb340 ∧ (k_ ≠ gb341 ∧ k_ ≠ gb363)) ∧ some k_ ≠ (.slice Ao51 t364.length co51 : Value).ownBlock) ∧ some k_ ≠ (.slice Ao56 t367.length co56 : Value).ownBlock) ∧ k_ ≠ gb370) ∧ some k_ ≠ (.slice Ao61 t371.length co61 : Value).ownBlock) ∧ some k_ ≠ (.slice Ao67 t374.length co67 : Value).ownBlock) ∧ k_ ≠ gb377) ∧ some k_ ≠ (.slice Ao71 t378.length co71 : Value).ownBlock) ∧ some k_ ≠ (.slice Ao78 t381.length co78 : Value).ownBlock) ∧ k_ ≠ gb385)) (n := t359.length) (c := co45) ?_).2.2; exact (by refine VU ?_; exact (Kd.V_mono (Kd.V_far (p := ⟨gb385, 1, none⟩) (Kd.V_far (p := ⟨gb385, 0, none⟩) (Kd.V_mono HO361.out (fun k_ hk => (⟨hk, hk.2⟩ : _ ∧ k_ ≠ gb385))) (fun _ hk => hk.2) (.slice Ao71 t378.length co71)) (fun _ hk => hk.2) (.slice Ao78 t381.length co78)) (fun _ h_ => h_.1)))); (case side8 => exact (Kd.V_reads' HO361.out).2.1); rintro e w92 ⟨rfl, hb⟩; refine ⟨_, rfl, ?_⟩; replace HO346 := Aside0.mk (Kd.R_below (by refine RU ?_; exact (far2 HO346.out BK385.out)) hb); replace HO349 := Aside0.mk (Kd.R_below (by refine RU ?_; exact (far2 HO349.out BK385.out)) hb); replace HO352 := Aside0.mk (Kd.R_below (by refine RU ?_; exact (far2 HO352.out BK385.out)) hb); replace HO355 := Aside0.mk (Kd.R_below (by refine RU ?_; exact (far2 HO355.out BK385.out)) hb); replace HO358 := Aside0.mk (Kd.V_below (by refine VU ?_; exact (Kd.V_mono (Kd.V_far (p := ⟨gb385, 1, none⟩) (Kd.V_far (p := ⟨gb385, 0, none⟩) (Kd.V_mono HO358.out (fun k_ hk => (⟨hk, hk.2⟩ : _ ∧ k_ ≠ gb385))) (fun _ hk => hk.2) (.slice Ao71 t378.length co71)) (fun _ hk => hk.2) (.slice Ao78 t381.length co78)) (fun _ h_ => h_.1))) hb); replace HO361 := Aside0.mk (Kd.V_below (by refine VU ?_; exact (Kd.V_mono (Kd.V_far (p := ⟨gb385, 1, none⟩) (Kd.V_far (p := ⟨gb385, 0, none⟩) (Kd.V_mono HO361.out (fun k_ hk => (⟨hk, hk.2⟩ : _ ∧ k_ ≠ gb385))) (fun _ hk => hk.2) (.slice Ao71 t378.length co71)) (fun _ hk => hk.2) (.slice Ao78 t381.length co78)) (fun _ h_ => h_.1))) hb); replace HO366 := Aside0.mk (Kd.R_below (by refine RU ?_; exact (far2 HO366.out BK385.out)) hb); replace HO369 := Aside0.mk (Kd.R_below (by refine RU ?_; exact (far2 HO369.out BK385.out)) hb); replace HO373 := Aside0.mk (Kd.R_below (by refine RU ?_; exact (far2 HO373.out BK385.out)) hb); replace HO376 := Aside0.mk (Kd.R_below (by refine RU ?_; exact (far2 HO376.out BK385.out)) hb); replace HO380 := Aside0.mk (Kd.R_below (by refine RU ?_; exact (far2 HO380.out BK385.out)) hb); replace HO383 := Aside0.mk (Kd.R_below (by refine RU ?_; exact (far2 HO383.out BK385.out)) hb); replace BK340 := Aside0.mk (blk_below (g := gb340) (o := .cells #[.slice A0_0 l0_0.length c0_0, .slice A0_1 l0_1.length c0_1] 24 (0, 0)) (by refine kU ?_; refine blk_far ?_ NB340_385.out _; refine kU ?_; refine blk_far ?_ NB340_385.out _; refine kU ?_; exact BK340.out) hb); replace BK341 := Aside0.mk (blk_below (g := gb341) (o := .cells #[.slice A1_0 l1_0.length c1_0, .slice A1_1 l1_1.length c1_1] 24 (0, 0)) (by refine kU ?_; refine blk_far ?_ NB341_385.out _; refine kU ?_; refine blk_far ?_ NB341_385.out _; refine kU ?_; exact BK341.out) hb); replace BK363 := Aside0.mk (blk_below (g := gb363) (o := .cells #[.slice Ao43 t356.length co43, .slice Ao45 t359.length co45] 26 (0, 0)) (by refine kU ?_; refine blk_far ?_ NB363_385.out _; refine kU ?_; refine blk_far ?_ NB363_385.out _; refine kU ?_; exact BK363.out) hb); replace BK370 := Aside0.mk (blk_below (g := gb370) (o := .cells #[.slice Ao51 t364.length co51, .slice Ao56 t367.length co56] 26 (0, 0)) (by refine kU ?_; refine blk_far ?_ NB370_385.out _; refine kU ?_; refine blk_far ?_ NB370_385.out _; refine kU ?_; exact BK370.out) hb); replace BK377 := Aside0.mk (blk_below (g := gb377) (o := .cells #[.slice Ao61 t371.length co61, .slice Ao67 t374.length co67] 26 (0, 0)) (by refine kU ?_; refine blk_far ?_ NB377_385.out _; refine kU ?_; refine blk_far ?_ NB377_385.out _; refine kU ?_; exact BK377.out) hb); replace BK385 := Aside0.mk (blk_below (g := gb385) (o := .cells #[.slice Ao71 t378.length co71, .slice Ao78 t381.length co78] 26 (0, 0)) (by refine kU ?_; refine blk_put (cs := #[.slice Ao71 t378.length co71, .slice none 0 0]) ?_ 1 _ rfl; refine kU ?_; refine blk_put (cs := #[.slice none 0 0, .slice none 0 0]) ?_ 0 _ rfl; refine kU ?_; exact BK385.out) hb); replace HB := Aside0.mk (below_step (bS6 HB.out GE340.out GE341.out GE363.out GE370.out GE377.out GE385.out) hb); (try clear hb); (try clear hb2); (try clear hk); (try clear hi)))
     go_meet
     case rel => exact ⟨_, ((t384 != t362)), (by first | rfl | (simp; done) | (simp [*]; done)), H', ⟨by first | omega | exact Nat.le_refl _⟩, ⟨by refine VU ?_; exact Kd.V_mono HO358.out (fun _ hk => ⟨hk.1.1.1.1.1.1.1.1.2, ⟨hk.1.1.1.1.1.1.1.2, ⟨hk.1.1.1.1.1.2, ⟨hk.1.1.1.1.2, ⟨hk.1.1.2, ⟨hk.1.2, ⟨hk.1.1.1.1.1.1.1.1.1.1, ⟨hk.1.1.1.1.1.1.1.1.1.2.1, ⟨hk.1.1.1.1.1.1.1.1.1.2.2, ⟨hk.1.1.1.1.1.1.2, ⟨hk.1.1.1.2, hk.2⟩⟩⟩⟩⟩⟩⟩⟩⟩⟩⟩)⟩, ⟨by refine VU ?_; exact Kd.V_mono HO361.out (fun _ hk => ⟨hk.1.1.1.1.1.1.1.1.2, ⟨hk.1.1.1.1.1.1.1.2, ⟨hk.1.1.1.1.1.2, ⟨hk.1.1.1.1.2, ⟨hk.1.1.2, ⟨hk.1.2, ⟨hk.1.1.1.1.1.1.1.1.1.1, ⟨hk.1.1.1.1.1.1.1.1.1.2.1, ⟨hk.1.1.1.1.1.1.1.1.1.2.2, ⟨hk.1.1.1.1.1.1.2, ⟨hk.1.1.1.2, hk.2⟩⟩⟩⟩⟩⟩⟩⟩⟩⟩⟩)⟩, ⟨by refine RU ?_; exact Kd.R_mono HO366.out (fun _ hk => ⟨hk.1.1.1.1.1.1.1.1, ⟨hk.1.1.1.2, ⟨hk.1.1.2, ⟨hk.1.2, hk.2⟩⟩⟩⟩)⟩, ⟨by refine RU ?_; exact Kd.R_mono HO369.out (fun _ hk => ⟨hk.1.1.1.1.1.1.1.1, ⟨hk.1.1.1.2, ⟨hk.1.1.2, ⟨hk.1.2, hk.2⟩⟩⟩⟩)⟩, ⟨by refine RU ?_; exact Kd.R_mono HO373.out (fun _ hk => ⟨hk.1.1.1.2, ⟨hk.1.1.2, ⟨hk.1.1.1.1.1.1.1.1, ⟨hk.1.2, hk.2⟩⟩⟩⟩)⟩, ⟨by refine RU ?_; exact Kd.R_mono HO376.out (fun _ hk => ⟨hk.1.1.1.2, ⟨hk.1.1.2, ⟨hk.1.1.1.1.1.1.1.1, ⟨hk.1.2, hk.2⟩⟩⟩⟩)⟩, ⟨by refine RU ?_; exact Kd.R_mono HO380.out (fun _ hk => ⟨hk.1.1.1.2, ⟨hk.1.1.2, ⟨hk.1.2, ⟨hk.2, hk.1.1.1.1.1.1.1.1⟩⟩⟩⟩)⟩, ⟨by refine RU ?_; exact Kd.R_mono HO383.out (fun _ hk => ⟨hk.1.1.1.2, ⟨hk.1.1.2, ⟨hk.1.2, ⟨hk.2, hk.1.1.1.1.1.1.1.1⟩⟩⟩⟩)⟩, ⟨by refine kU ?_; exact BK340.out⟩, ⟨by refine kU ?_; exact BK341.out⟩, ⟨by refine kU ?_; exact BK363.out⟩, ⟨by refine kU ?_; exact BK370.out⟩, ⟨by refine kU ?_; exact BK377.out⟩, ⟨by refine kU ?_; exact BK385.out⟩, ⟨by exact bS6 HB.out GE340.out GE341.out GE363.out GE370.out GE377.out GE385.out⟩⟩
    ·
     replace c80 := Bool.eq_false_iff.mpr c80
     subst c80
     have H1 : (laws_FnExactJoin.j0 k t362 t384 true l0_0 l0_1 l1_0 l1_1 t356 t359 t364 t367 t371 t374 t378 t381) = some r := by rw [if_neg (show ¬ (false = true) by decide)] at H; exact H
     clear H
     have H := H1
     clear H1
     have hz_ : ∀ kz, laws_FnExactJoin.j0 kz t362 t384 true l0_0 l0_1 l1_0 l1_1 t356 t359 t364 t367 t371 t374 t378 t381 = some r → r = false := by intro kz hz; cases kz with | zero => exact absurd hz (by simp [laws_FnExactJoin.j0]) | succ kz => simp only [laws_FnExactJoin.j0] at hz; first | (rw [if_pos rfl] at hz; exact (Option.some.inj hz).symm) | (simp at hz; exact hz.symm) | (simp at hz; exact hz)
     exact absurd (HT.out.symm.trans (hz_ _ H)) (by decide)
   case rest =>
    clear HC25
    try clear c1
    try clear p2
    try clear c4
    try clear c5
    try clear c6
    try clear c7
    try clear c8
    try clear c9
    try clear c17
    try clear c19
    try clear c47
    try clear c50
    try clear c51
    try clear c52
    try clear c53
    try clear c54
    try clear c57
    try clear c62
    try clear c63
    try clear c64
    try clear c65
    try clear c72
    try clear c73
    try clear c74
    try clear c75
    try clear c76
    try clear c80
    try clear c81
    try clear c82
    try clear c83
    try clear c84
    try clear c85
    try clear c87
    try clear c88
    try clear c89
    try clear c90
    try clear hcz48_0
    try clear hcz48_1
    try clear hcz55_0
    try clear hcz55_1
    try clear hcz58_0
    try clear hcz58_1
    try clear hcz66_0
    try clear hcz66_1
    try clear hcz68_0
    try clear hcz68_1
    try clear hcz77_0
    try clear hcz77_1
    try clear hcz86_0
    try clear hcz86_1
    try clear hcz91_0
    try clear hcz91_1
    try clear hfz48_0
    try clear hfz48_1
    try clear hfz55_0
    try clear hfz55_1
    try clear hfz58_0
    try clear hfz58_1
    try clear hfz66_0
    try clear hfz66_1
    try clear hfz68_0
    try clear hfz68_1
    try clear hfz77_0
    try clear hfz77_1
    try clear hfz86_0
    try clear hfz86_1
    try clear hfz91_0
    try clear hfz91_1
    obtain ⟨kq, x53_24, rfl, HA, HJ24, HO_364000, HO_364001, HO_371000, HO_371001, HO_378000, HO_378001, HO_386000, HO_386001, BK340, BK341, BK363, BK370, BK377, BK385, HB⟩ := hcut
    cases kq with
    | zero => exact absurd HA.out (by simp [laws_FnExactJoin.j0])
    | succ kj24 =>
     have H := HA.out
     clear HA
     simp only [laws_FnExactJoin.j0] at H
     by_cases c93 : x53_24 = true
     ·
      subst c93
      have H1 : (some false) = some r := by rw [if_pos rfl] at H; exact H
      clear H
      have H := H1
      clear H1
      obtain rfl := Option.some.inj H
      exact absurd HT.out (by decide)
     ·
      replace c93 := Bool.eq_false_iff.mpr c93
      subst c93
      have H1 : ((laws_toArray.f kj24 l0_0 l0_1).bind fun bt387 => ((laws_eqArray.f kj24 t364 t367 bt387.1 bt387.2).bind fun t393 => (if t393 = true then ((laws_toArray.f kj24 l1_0 l1_1).bind fun bt394 => ((laws_eqArray.f kj24 t371 t374 bt394.1 bt394.2).bind fun t400 => (if t400 = true then ((laws_markArray.f kj24 t364 t367 1).bind fun bt401 => ((laws_markArray.f kj24 t371 t374 bt401.1).bind fun bt404 => (if bt404.1 < 0 then (laws_FnExactJoin.j1 kj24 t362 true l0_0 l0_1 l1_0 l1_1 t356 t359 t378 t381) else ((laws_eqArray.f kj24 t378 t381 t356 t359).bind fun t407 => (if t407 = true then (laws_FnExactJoin.j1 kj24 t362 (t384 != t362) l0_0 l0_1 l1_0 l1_1 t356 t359 t378 t381) else (laws_FnExactJoin.j1 kj24 t362 true l0_0 l0_1 l1_0 l1_1 t356 t359 t378 t381)))))) else (some false)))) else (some false)))) = some r := by rw [if_neg (show ¬ (false = true) by decide)] at H; exact H
      clear H
      have H := H1
      clear H1
      replace H := Option.bind_eq_some_iff.mp H
      obtain ⟨⟨t387, t390⟩, A940, H⟩ := H
      replace H : ((laws_eqArray.f kj24 t364 t367 t387 t390).bind fun t393 => (if t393 = true then ((laws_toArray.f kj24 l1_0 l1_1).bind fun bt394 => ((laws_eqArray.f kj24 t371 t374 bt394.1 bt394.2).bind fun t400 => (if t400 = true then ((laws_markArray.f kj24 t364 t367 1).bind fun bt401 => ((laws_markArray.f kj24 t371 t374 bt401.1).bind fun bt404 => (if bt404.1 < 0 then (laws_FnExactJoin.j1 kj24 t362 true l0_0 l0_1 l1_0 l1_1 t356 t359 t378 t381) else ((laws_eqArray.f kj24 t378 t381 t356 t359).bind fun t407 => (if t407 = true then (laws_FnExactJoin.j1 kj24 t362 (t384 != t362) l0_0 l0_1 l1_0 l1_1 t356 t359 t378 t381) else (laws_FnExactJoin.j1 kj24 t362 true l0_0 l0_1 l1_0 l1_1 t356 t359 t378 t381)))))) else (some false)))) else (some false))) = some r := H
      have A94 := Aside0.mk A940
      clear A940
      replace H := Option.bind_eq_some_iff.mp H
      obtain ⟨t393, A950, H⟩ := H
      replace H : (if t393 = true then ((laws_toArray.f kj24 l1_0 l1_1).bind fun bt394 => ((laws_eqArray.f kj24 t371 t374 bt394.1 bt394.2).bind fun t400 => (if t400 = true then ((laws_markArray.f kj24 t364 t367 1).bind fun bt401 => ((laws_markArray.f kj24 t371 t374 bt401.1).bind fun bt404 => (if bt404.1 < 0 then (laws_FnExactJoin.j1 kj24 t362 true l0_0 l0_1 l1_0 l1_1 t356 t359 t378 t381) else ((laws_eqArray.f kj24 t378 t381 t356 t359).bind fun t407 => (if t407 = true then (laws_FnExactJoin.j1 kj24 t362 (t384 != t362) l0_0 l0_1 l1_0 l1_1 t356 t359 t378 t381) else (laws_FnExactJoin.j1 kj24 t362 true l0_0 l0_1 l1_0 l1_1 t356 t359 t378 t381)))))) else (some false)))) else (some false)) = some r := H
      have A95 := Aside0.mk A950
      clear A950
      by_cases c96 : t393 = true
      ·
       subst c96
       have H1 : ((laws_toArray.f kj24 l1_0 l1_1).bind fun bt394 => ((laws_eqArray.f kj24 t371 t374 bt394.1 bt394.2).bind fun t400 => (if t400 = true then ((laws_markArray.f kj24 t364 t367 1).bind fun bt401 => ((laws_markArray.f kj24 t371 t374 bt401.1).bind fun bt404 => (if bt404.1 < 0 then (laws_FnExactJoin.j1 kj24 t362 true l0_0 l0_1 l1_0 l1_1 t356 t359 t378 t381) else ((laws_eqArray.f kj24 t378 t381 t356 t359).bind fun t407 => (if t407 = true then (laws_FnExactJoin.j1 kj24 t362 (t384 != t362) l0_0 l0_1 l1_0 l1_1 t356 t359 t378 t381) else (laws_FnExactJoin.j1 kj24 t362 true l0_0 l0_1 l1_0 l1_1 t356 t359 t378 t381)))))) else (some false)))) = some r := by rw [if_pos rfl] at H; exact H
       clear H
       have H := H1
       clear H1
       replace H := Option.bind_eq_some_iff.mp H
       obtain ⟨⟨t394, t397⟩, A970, H⟩ := H
       replace H : ((laws_eqArray.f kj24 t371 t374 t394 t397).bind fun t400 => (if t400 = true then ((laws_markArray.f kj24 t364 t367 1).bind fun bt401 => ((laws_markArray.f kj24 t371 t374 bt401.1).bind fun bt404 => (if bt404.1 < 0 then (laws_FnExactJoin.j1 kj24 t362 true l0_0 l0_1 l1_0 l1_1 t356 t359 t378 t381) else ((laws_eqArray.f kj24 t378 t381 t356 t359).bind fun t407 => (if t407 = true then (laws_FnExactJoin.j1 kj24 t362 (t384 != t362) l0_0 l0_1 l1_0 l1_1 t356 t359 t378 t381) else (laws_FnExactJoin.j1 kj24 t362 true l0_0 l0_1 l1_0 l1_1 t356 t359 t378 t381)))))) else (some false))) = some r := H
       have A97 := Aside0.mk A970
       clear A970
       replace H := Option.bind_eq_some_iff.mp H
       obtain ⟨t400, A980, H⟩ := H
       replace H : (if t400 = true then ((laws_markArray.f kj24 t364 t367 1).bind fun bt401 => ((laws_markArray.f kj24 t371 t374 bt401.1).bind fun bt404 => (if bt404.1 < 0 then (laws_FnExactJoin.j1 kj24 t362 true l0_0 l0_1 l1_0 l1_1 t356 t359 t378 t381) else ((laws_eqArray.f kj24 t378 t381 t356 t359).bind fun t407 => (if t407 = true then (laws_FnExactJoin.j1 kj24 t362 (t384 != t362) l0_0 l0_1 l1_0 l1_1 t356 t359 t378 t381) else (laws_FnExactJoin.j1 kj24 t362 true l0_0 l0_1 l1_0 l1_1 t356 t359 t378 t381)))))) else (some false)) = some r := H
       have A98 := Aside0.mk A980
       clear A980
       by_cases c99 : t400 = true
       ·
        subst c99
        have H1 : ((laws_markArray.f kj24 t364 t367 1).bind fun bt401 => ((laws_markArray.f kj24 t371 t374 bt401.1).bind fun bt404 => (if bt404.1 < 0 then (laws_FnExactJoin.j1 kj24 t362 true l0_0 l0_1 l1_0 l1_1 t356 t359 t378 t381) else ((laws_eqArray.f kj24 t378 t381 t356 t359).bind fun t407 => (if t407 = true then (laws_FnExactJoin.j1 kj24 t362 (t384 != t362) l0_0 l0_1 l1_0 l1_1 t356 t359 t378 t381) else (laws_FnExactJoin.j1 kj24 t362 true l0_0 l0_1 l1_0 l1_1 t356 t359 t378 t381)))))) = some r := by rw [if_pos rfl] at H; exact H
        clear H
        have H := H1
        clear H1
        replace H := Option.bind_eq_some_iff.mp H
        obtain ⟨⟨t401, t402, t403⟩, A1000, H⟩ := H
        replace H : ((laws_markArray.f kj24 t371 t374 t401).bind fun bt404 => (if bt404.1 < 0 then (laws_FnExactJoin.j1 kj24 t362 true l0_0 l0_1 l1_0 l1_1 t356 t359 t378 t381) else ((laws_eqArray.f kj24 t378 t381 t356 t359).bind fun t407 => (if t407 = true then (laws_FnExactJoin.j1 kj24 t362 (t384 != t362) l0_0 l0_1 l1_0 l1_1 t356 t359 t378 t381) else (laws_FnExactJoin.j1 kj24 t362 true l0_0 l0_1 l1_0 l1_1 t356 t359 t378 t381))))) = some r := H
        have A100 := Aside0.mk A1000
        clear A1000
        replace H := Option.bind_eq_some_iff.mp H
        obtain ⟨⟨t404, t405, t406⟩, A1010, H⟩ := H
        replace H : (if t404 < 0 then (laws_FnExactJoin.j1 kj24 t362 true l0_0 l0_1 l1_0 l1_1 t356 t359 t378 t381) else ((laws_eqArray.f kj24 t378 t381 t356 t359).bind fun t407 => (if t407 = true then (laws_FnExactJoin.j1 kj24 t362 (t384 != t362) l0_0 l0_1 l1_0 l1_1 t356 t359 t378 t381) else (laws_FnExactJoin.j1 kj24 t362 true l0_0 l0_1 l1_0 l1_1 t356 t359 t378 t381)))) = some r := H
        have A101 := Aside0.mk A1010
        clear A1010
        have HC102 := Aside0.mk H
        clear H
        try go_wp2
        replace HO_364000 := Aside0.mk (Kd.V_drew HO_364000.out)
        replace HO_364001 := Aside0.mk (Kd.V_drew HO_364001.out)
        replace HO_371000 := Aside0.mk (Kd.R_drew HO_371000.out)
        replace HO_371001 := Aside0.mk (Kd.R_drew HO_371001.out)
        replace HO_378000 := Aside0.mk (Kd.R_drew HO_378000.out)
        replace HO_378001 := Aside0.mk (Kd.R_drew HO_378001.out)
        replace HO_386000 := Aside0.mk (Kd.R_drew HO_386000.out)
        replace HO_386001 := Aside0.mk (Kd.R_drew HO_386001.out)
        replace BK340 := Aside0.mk (blk_drew BK340.out)
        replace BK341 := Aside0.mk (blk_drew BK341.out)
        replace BK363 := Aside0.mk (blk_drew BK363.out)
        replace BK370 := Aside0.mk (blk_drew BK370.out)
        replace BK377 := Aside0.mk (blk_drew BK377.out)
        replace BK385 := Aside0.mk (blk_drew BK385.out)
        replace HB := Aside0.mk (below_drew1 HB.out)
        refine start_ (n := 5) (S := fun w' => w'.cell? ⟨gb370, 0, none⟩ = some (.slice Ao51 t364.length co51) ∧ w'.cell? ⟨gb370, 1, none⟩ = some (.slice Ao56 t367.length co56) ∧ w'.cell? ⟨gb340, 0, none⟩ = some (.slice A0_0 l0_0.length c0_0) ∧ w'.cell? ⟨gb340, 1, none⟩ = some (.slice A0_1 l0_1.length c0_1)) (ds := []) #[false, false, false, false, false] (by kernel_rfl) rfl rfl ⟨(blk_cell BK370.out 0).trans rfl, (blk_cell BK370.out 1).trans rfl, (blk_cell BK340.out 0).trans rfl, (blk_cell BK340.out 1).trans rfl⟩ (fun hHeld => ?_)
        generalize wc.drew = w103 at HO_364000 HO_364001 HO_371000 HO_371001 HO_378000 HO_378001 HO_386000 HO_386001 BK340 BK341 BK363 BK370 BK377 BK385 HB hHeld ⊢
        refine take_ (i := 0) (N := some 54) (v := ?_) (a' := ?_) #[true, false, false, false, false] rfl rfl (by kernel_rfl) (fun _ _ _ h => h) (Or.inl ⟨by rfl, ?_⟩) hHeld ?_ ?_
        rotate_left
        ·
         rintro w' ⟨s0, s1, s2, s3⟩
         go_simp
         with_reducible rfl
        rotate_left
        ·
         simp only [Act.put, List.setIfInBounds_toArray, List.set_cons_zero, List.set_cons_succ, i64_w, i32_w]
         rfl
        refine take_ (i := 1) (N := some 55) (v := ?_) (a' := ?_) #[true, true, false, false, false] rfl rfl (by kernel_rfl) (fun _ _ _ h => h) (Or.inl ⟨by rfl, ?_⟩) hHeld ?_ ?_
        rotate_left
        ·
         rintro w' ⟨s0, s1, s2, s3⟩
         go_simp
         with_reducible rfl
        rotate_left
        ·
         simp only [Act.put, List.setIfInBounds_toArray, List.set_cons_zero, List.set_cons_succ, i64_w, i32_w]
         rfl
        refine one_ (i := 2) (N := some 56) #[true, true, true, false, false] rfl rfl (by kernel_rfl) (by decide) (fun K hK => ?_)
        refine goes_ Try.func17 (by kernel_rfl) rfl #[.agg #[.slice A0_0 l0_0.length c0_0, .slice A0_1 l0_1.length c0_1]] (by rfl) rfl rfl lU ?_
        with_reducible refine (laws_toArray.calls kj24 _ _ l0_0 _ _ l0_1 t387 t390 _ ?side1 ?side2 ?side3 ?side4 A94.out).mono ?_
        (case side1 => exact cU (Kd.C_below HR0_0.out HB.out))
        (case side2 => exact HC0_0.out)
        (case side3 => exact cU (Kd.C_below HR0_1.out HB.out))
        (case side4 => exact HC0_1.out)
        rintro e w104 ⟨v388, v391, rfl, ho0, ho1, hb⟩
        refine ⟨_, rfl, ?_⟩
        replace HO_364000 := Aside0.mk (Kd.V_mono (Kd.V_told (Kd.V_told (Kd.V_old (VU HO_364000.out) hb) (Kd.R_base ho0)) (Kd.R_base ho1)) (fun _ h_ => h_.1))
        replace HO_364001 := Aside0.mk (Kd.V_mono (Kd.V_told (Kd.V_told (Kd.V_old (VU HO_364001.out) hb) (Kd.R_base ho0)) (Kd.R_base ho1)) (fun _ h_ => h_.1))
        have HO389 := Aside0.mk (Kd.R_lower (Kd.R_new' (Kd.R_new' (Kd.R_new' (Kd.R_new' (Kd.R_new' (Kd.R_new' ho0 (Kd.R_lt (RU HO_371000.out))) (Kd.R_lt (RU HO_371001.out))) (Kd.R_lt (RU HO_378000.out))) (Kd.R_lt (RU HO_378001.out))) (Kd.R_lt (RU HO_386000.out))) (Kd.R_lt (RU HO_386001.out))) (below_size (bS6 HB.out GE340.out GE341.out GE363.out GE370.out GE377.out GE385.out)))
        have HO392 := Aside0.mk (Kd.R_lower (Kd.R_new' (Kd.R_new' (Kd.R_new' (Kd.R_new' (Kd.R_new' (Kd.R_new' ho1 (Kd.R_lt (RU HO_371000.out))) (Kd.R_lt (RU HO_371001.out))) (Kd.R_lt (RU HO_378000.out))) (Kd.R_lt (RU HO_378001.out))) (Kd.R_lt (RU HO_386000.out))) (Kd.R_lt (RU HO_386001.out))) (below_size (bS6 HB.out GE340.out GE341.out GE363.out GE370.out GE377.out GE385.out)))
        replace HO_371000 := Aside0.mk (Kd.R_mono (Kd.R_told (Kd.R_told (Kd.R_old (RU HO_371000.out) hb) (Kd.R_base ho0)) (Kd.R_base ho1)) (fun _ h_ => h_.1))
        replace HO_371001 := Aside0.mk (Kd.R_mono (Kd.R_told (Kd.R_told (Kd.R_old (RU HO_371001.out) hb) (Kd.R_base ho0)) (Kd.R_base ho1)) (fun _ h_ => h_.1))
        replace HO_378000 := Aside0.mk (Kd.R_mono (Kd.R_told (Kd.R_told (Kd.R_old (RU HO_378000.out) hb) (Kd.R_base ho0)) (Kd.R_base ho1)) (fun _ h_ => h_.1))
        replace HO_378001 := Aside0.mk (Kd.R_mono (Kd.R_told (Kd.R_told (Kd.R_old (RU HO_378001.out) hb) (Kd.R_base ho0)) (Kd.R_base ho1)) (fun _ h_ => h_.1))
        replace HO_386000 := Aside0.mk (Kd.R_mono (Kd.R_told (Kd.R_told (Kd.R_old (RU HO_386000.out) hb) (Kd.R_base ho0)) (Kd.R_base ho1)) (fun _ h_ => h_.1))
        replace HO_386001 := Aside0.mk (Kd.R_mono (Kd.R_told (Kd.R_told (Kd.R_old (RU HO_386001.out) hb) (Kd.R_base ho0)) (Kd.R_base ho1)) (fun _ h_ => h_.1))
        replace BK340 := Aside0.mk (kB BK340.out hb)
        replace BK341 := Aside0.mk (kB BK341.out hb)
        replace BK363 := Aside0.mk (kB BK363.out hb)
        replace BK370 := Aside0.mk (kB BK370.out hb)
        replace BK377 := Aside0.mk (kB BK377.out hb)
        replace BK385 := Aside0.mk (kB BK385.out hb)
        replace HB := Aside0.mk (below_step (bS6 HB.out GE340.out GE341.out GE363.out GE370.out GE377.out GE385.out) hb)
        (try clear hb)
        (try clear hb2)
        (try clear hk)
        (try clear hi)
        (try clear ho0)
        (try clear ho1)
        obtain ⟨Ao105, co105, eo105⟩ := Kd.R_slice HO389.out
        (first | subst eo105 | (injection eo105 with f1_ f2_ f3_; have f4_ := f1_.symm; have f5_ := f3_.symm; clear f1_ f2_ f3_; subst f4_; subst f5_))
        obtain ⟨Ao106, co106, eo106⟩ := Kd.R_slice HO392.out
        (first | subst eo106 | (injection eo106 with f1_ f2_ f3_; have f4_ := f1_.symm; have f5_ := f3_.symm; clear f1_ f2_ f3_; subst f4_; subst f5_))
        refine hK.out _ _ ⟨(blk_cell BK370.out 0).trans rfl, (blk_cell BK370.out 1).trans rfl, (blk_cell BK340.out 0).trans rfl, (blk_cell BK340.out 1).trans rfl⟩ (fun hHeld => ?_)
        clear hK K
        refine norm_ (a' := ?_) ?_ ?_
        rotate_left
        ·
         show Act.put _ (some 56) _ = _
         simp only [Act.put, List.setIfInBounds_toArray, List.set_cons_zero, List.set_cons_succ, i64_w, i32_w]
         rfl
        refine one_ (i := 3) (N := some 57) #[true, true, true, true, false] rfl rfl (by kernel_rfl) (by decide) (fun K hK => ?_)
        refine goes_ Try.func19 (by kernel_rfl) rfl #[.agg #[.slice Ao51 t364.length co51, .slice Ao56 t367.length co56], .agg #[.slice Ao105 t387.length co105, .slice Ao106 t390.length co106]] (by rfl) rfl rfl lU ?_
        with_reducible refine (laws_eqArray.calls kj24 _ _ t364 _ _ t367 _ _ t387 _ _ t390 true _ ?side1 ?side2 ?side3 ?side4 ?side5 ?side6 ?side7 ?side8 A95.out).mono ?_
        (case side1 => exact cU (Kd.R_reads' HO_371000.out).2.2)
        (case side2 => exact (Kd.R_reads' HO_371000.out).2.1)
        (case side3 => exact cU (Kd.R_reads' HO_371001.out).2.2)
        (case side4 => exact (Kd.R_reads' HO_371001.out).2.1)
        (case side5 => exact cU (Kd.R_reads' HO389.out).2.2)
        (case side6 => exact (Kd.R_reads' HO389.out).2.1)
        (case side7 => exact cU (Kd.R_reads' HO392.out).2.2)
        (case side8 => exact (Kd.R_reads' HO392.out).2.1)
        rintro e w107 ⟨rfl, hb⟩
        refine ⟨_, rfl, ?_⟩
        replace HO_364000 := Aside0.mk (Kd.V_below (VU HO_364000.out) hb)
        replace HO_364001 := Aside0.mk (Kd.V_below (VU HO_364001.out) hb)
        replace HO_371000 := Aside0.mk (Kd.R_below (RU HO_371000.out) hb)
        replace HO_371001 := Aside0.mk (Kd.R_below (RU HO_371001.out) hb)
        replace HO_378000 := Aside0.mk (Kd.R_below (RU HO_378000.out) hb)
        replace HO_378001 := Aside0.mk (Kd.R_below (RU HO_378001.out) hb)
        replace HO_386000 := Aside0.mk (Kd.R_below (RU HO_386000.out) hb)
        replace HO_386001 := Aside0.mk (Kd.R_below (RU HO_386001.out) hb)
        replace HO389 := Aside0.mk (Kd.R_below (RU HO389.out) hb)
        replace HO392 := Aside0.mk (Kd.R_below (RU HO392.out) hb)
        replace BK340 := Aside0.mk (kB BK340.out hb)
        replace BK341 := Aside0.mk (kB BK341.out hb)
        replace BK363 := Aside0.mk (kB BK363.out hb)
        replace BK370 := Aside0.mk (kB BK370.out hb)
        replace BK377 := Aside0.mk (kB BK377.out hb)
        replace BK385 := Aside0.mk (kB BK385.out hb)
        replace HB := Aside0.mk (below_step (bS6 HB.out GE340.out GE341.out GE363.out GE370.out GE377.out GE385.out) hb)
        (try clear hb)
        (try clear hb2)
        (try clear hk)
        (try clear hi)
        refine hK.out _ _ ⟨(blk_cell BK370.out 0).trans rfl, (blk_cell BK370.out 1).trans rfl, (blk_cell BK340.out 0).trans rfl, (blk_cell BK340.out 1).trans rfl⟩ (fun hHeld => ?_)
        clear hK K
        refine norm_ (a' := ?_) ?_ ?_
        rotate_left
        ·
         show Act.put _ (some 57) _ = _
         simp only [Act.put, List.setIfInBounds_toArray, List.set_cons_zero, List.set_cons_succ, i64_w, i32_w]
         rfl
        refine pure_ (i := 4) (N := some 58) (v := ?_) (a' := ?_) #[true, true, true, true, true] rfl rfl (by kernel_rfl) (fun _ _ _ h => h) (Or.inl ⟨by rfl, ?_⟩) ?_ ?_
        rotate_left
        ·
         intro w'
         go_simp
         with_reducible rfl
        rotate_left
        ·
         simp only [Act.put, List.setIfInBounds_toArray, List.set_cons_zero, List.set_cons_succ, i64_w, i32_w]
         rfl
        refine done_ (by kernel_rfl) ?_
        try go_wp2
        replace HO_364000 := Aside0.mk (Kd.V_drew HO_364000.out)
        replace HO_364001 := Aside0.mk (Kd.V_drew HO_364001.out)
        replace HO_371000 := Aside0.mk (Kd.R_drew HO_371000.out)
        replace HO_371001 := Aside0.mk (Kd.R_drew HO_371001.out)
        replace HO_378000 := Aside0.mk (Kd.R_drew HO_378000.out)
        replace HO_378001 := Aside0.mk (Kd.R_drew HO_378001.out)
        replace HO_386000 := Aside0.mk (Kd.R_drew HO_386000.out)
        replace HO_386001 := Aside0.mk (Kd.R_drew HO_386001.out)
        replace HO389 := Aside0.mk (Kd.R_drew HO389.out)
        replace HO392 := Aside0.mk (Kd.R_drew HO392.out)
        replace BK340 := Aside0.mk (blk_drew BK340.out)
        replace BK341 := Aside0.mk (blk_drew BK341.out)
        replace BK363 := Aside0.mk (blk_drew BK363.out)
        replace BK370 := Aside0.mk (blk_drew BK370.out)
        replace BK377 := Aside0.mk (blk_drew BK377.out)
        replace BK385 := Aside0.mk (blk_drew BK385.out)
        replace HB := Aside0.mk (below_drew1 HB.out)
        refine start_ (n := 5) (S := fun w' => w'.cell? ⟨gb377, 0, none⟩ = some (.slice Ao61 t371.length co61) ∧ w'.cell? ⟨gb377, 1, none⟩ = some (.slice Ao67 t374.length co67) ∧ w'.cell? ⟨gb341, 0, none⟩ = some (.slice A1_0 l1_0.length c1_0) ∧ w'.cell? ⟨gb341, 1, none⟩ = some (.slice A1_1 l1_1.length c1_1)) (ds := []) #[false, false, false, false, false] (by kernel_rfl) rfl rfl ⟨(blk_cell BK377.out 0).trans rfl, (blk_cell BK377.out 1).trans rfl, (blk_cell BK341.out 0).trans rfl, (blk_cell BK341.out 1).trans rfl⟩ (fun hHeld => ?_)
        generalize w107.drew = w108 at HO_364000 HO_364001 HO_371000 HO_371001 HO_378000 HO_378001 HO_386000 HO_386001 HO389 HO392 BK340 BK341 BK363 BK370 BK377 BK385 HB hHeld ⊢
        refine take_ (i := 0) (N := some 59) (v := ?_) (a' := ?_) #[true, false, false, false, false] rfl rfl (by kernel_rfl) (fun _ _ _ h => h) (Or.inl ⟨by rfl, ?_⟩) hHeld ?_ ?_
        rotate_left
        ·
         rintro w' ⟨s0, s1, s2, s3⟩
         go_simp
         with_reducible rfl
        rotate_left
        ·
         simp only [Act.put, List.setIfInBounds_toArray, List.set_cons_zero, List.set_cons_succ, i64_w, i32_w]
         rfl
        refine take_ (i := 1) (N := some 60) (v := ?_) (a' := ?_) #[true, true, false, false, false] rfl rfl (by kernel_rfl) (fun _ _ _ h => h) (Or.inl ⟨by rfl, ?_⟩) hHeld ?_ ?_
        rotate_left
        ·
         rintro w' ⟨s0, s1, s2, s3⟩
         go_simp
         with_reducible rfl
        rotate_left
        ·
         simp only [Act.put, List.setIfInBounds_toArray, List.set_cons_zero, List.set_cons_succ, i64_w, i32_w]
         rfl
        refine one_ (i := 2) (N := some 61) #[true, true, true, false, false] rfl rfl (by kernel_rfl) (by decide) (fun K hK => ?_)
        refine goes_ Try.func17 (by kernel_rfl) rfl #[.agg #[.slice A1_0 l1_0.length c1_0, .slice A1_1 l1_1.length c1_1]] (by rfl) rfl rfl lU ?_
        with_reducible refine (laws_toArray.calls kj24 _ _ l1_0 _ _ l1_1 t394 t397 _ ?side1 ?side2 ?side3 ?side4 A97.out).mono ?_
        (case side1 => exact cU (Kd.C_below HR1_0.out HB.out))
        (case side2 => exact HC1_0.out)
        (case side3 => exact cU (Kd.C_below HR1_1.out HB.out))
        (case side4 => exact HC1_1.out)
        rintro e w109 ⟨v395, v398, rfl, ho0, ho1, hb⟩
        refine ⟨_, rfl, ?_⟩
        replace HO_364000 := Aside0.mk (Kd.V_mono (Kd.V_told (Kd.V_told (Kd.V_old (VU HO_364000.out) hb) (Kd.R_base ho0)) (Kd.R_base ho1)) (fun _ h_ => h_.1))
        replace HO_364001 := Aside0.mk (Kd.V_mono (Kd.V_told (Kd.V_told (Kd.V_old (VU HO_364001.out) hb) (Kd.R_base ho0)) (Kd.R_base ho1)) (fun _ h_ => h_.1))
        have HO396 := Aside0.mk (Kd.R_lower (Kd.R_new' (Kd.R_new' (Kd.R_new' (Kd.R_new' (Kd.R_new' (Kd.R_new' (Kd.R_new' (Kd.R_new' ho0 (Kd.R_lt (RU HO_371000.out))) (Kd.R_lt (RU HO_371001.out))) (Kd.R_lt (RU HO_378000.out))) (Kd.R_lt (RU HO_378001.out))) (Kd.R_lt (RU HO_386000.out))) (Kd.R_lt (RU HO_386001.out))) (Kd.R_lt (RU HO389.out))) (Kd.R_lt (RU HO392.out))) (below_size (bS6 HB.out GE340.out GE341.out GE363.out GE370.out GE377.out GE385.out)))
        have HO399 := Aside0.mk (Kd.R_lower (Kd.R_new' (Kd.R_new' (Kd.R_new' (Kd.R_new' (Kd.R_new' (Kd.R_new' (Kd.R_new' (Kd.R_new' ho1 (Kd.R_lt (RU HO_371000.out))) (Kd.R_lt (RU HO_371001.out))) (Kd.R_lt (RU HO_378000.out))) (Kd.R_lt (RU HO_378001.out))) (Kd.R_lt (RU HO_386000.out))) (Kd.R_lt (RU HO_386001.out))) (Kd.R_lt (RU HO389.out))) (Kd.R_lt (RU HO392.out))) (below_size (bS6 HB.out GE340.out GE341.out GE363.out GE370.out GE377.out GE385.out)))
        replace HO_371000 := Aside0.mk (Kd.R_mono (Kd.R_told (Kd.R_told (Kd.R_old (RU HO_371000.out) hb) (Kd.R_base ho0)) (Kd.R_base ho1)) (fun _ h_ => h_.1))
        replace HO_371001 := Aside0.mk (Kd.R_mono (Kd.R_told (Kd.R_told (Kd.R_old (RU HO_371001.out) hb) (Kd.R_base ho0)) (Kd.R_base ho1)) (fun _ h_ => h_.1))
        replace HO_378000 := Aside0.mk (Kd.R_mono (Kd.R_told (Kd.R_told (Kd.R_old (RU HO_378000.out) hb) (Kd.R_base ho0)) (Kd.R_base ho1)) (fun _ h_ => h_.1))
        replace HO_378001 := Aside0.mk (Kd.R_mono (Kd.R_told (Kd.R_told (Kd.R_old (RU HO_378001.out) hb) (Kd.R_base ho0)) (Kd.R_base ho1)) (fun _ h_ => h_.1))
        replace HO_386000 := Aside0.mk (Kd.R_mono (Kd.R_told (Kd.R_told (Kd.R_old (RU HO_386000.out) hb) (Kd.R_base ho0)) (Kd.R_base ho1)) (fun _ h_ => h_.1))
        replace HO_386001 := Aside0.mk (Kd.R_mono (Kd.R_told (Kd.R_told (Kd.R_old (RU HO_386001.out) hb) (Kd.R_base ho0)) (Kd.R_base ho1)) (fun _ h_ => h_.1))
        replace HO389 := Aside0.mk (Kd.R_mono (Kd.R_told (Kd.R_told (Kd.R_old (RU HO389.out) hb) (Kd.R_base ho0)) (Kd.R_base ho1)) (fun _ h_ => h_.1))
        replace HO392 := Aside0.mk (Kd.R_mono (Kd.R_told (Kd.R_told (Kd.R_old (RU HO392.out) hb) (Kd.R_base ho0)) (Kd.R_base ho1)) (fun _ h_ => h_.1))
        replace BK340 := Aside0.mk (kB BK340.out hb)
        replace BK341 := Aside0.mk (kB BK341.out hb)
        replace BK363 := Aside0.mk (kB BK363.out hb)
        replace BK370 := Aside0.mk (kB BK370.out hb)
        replace BK377 := Aside0.mk (kB BK377.out hb)
        replace BK385 := Aside0.mk (kB BK385.out hb)
        replace HB := Aside0.mk (below_step (bS6 HB.out GE340.out GE341.out GE363.out GE370.out GE377.out GE385.out) hb)
        (try clear hb)
        (try clear hb2)
        (try clear hk)
        (try clear hi)
        (try clear ho0)
        (try clear ho1)
        obtain ⟨Ao110, co110, eo110⟩ := Kd.R_slice HO396.out
        (first | subst eo110 | (injection eo110 with f1_ f2_ f3_; have f4_ := f1_.symm; have f5_ := f3_.symm; clear f1_ f2_ f3_; subst f4_; subst f5_))
        obtain ⟨Ao111, co111, eo111⟩ := Kd.R_slice HO399.out
        (first | subst eo111 | (injection eo111 with f1_ f2_ f3_; have f4_ := f1_.symm; have f5_ := f3_.symm; clear f1_ f2_ f3_; subst f4_; subst f5_))
        refine hK.out _ _ ⟨(blk_cell BK377.out 0).trans rfl, (blk_cell BK377.out 1).trans rfl, (blk_cell BK341.out 0).trans rfl, (blk_cell BK341.out 1).trans rfl⟩ (fun hHeld => ?_)
        clear hK K
        refine norm_ (a' := ?_) ?_ ?_
        rotate_left
        ·
         show Act.put _ (some 61) _ = _
         simp only [Act.put, List.setIfInBounds_toArray, List.set_cons_zero, List.set_cons_succ, i64_w, i32_w]
         rfl
        refine one_ (i := 3) (N := some 62) #[true, true, true, true, false] rfl rfl (by kernel_rfl) (by decide) (fun K hK => ?_)
        refine goes_ Try.func19 (by kernel_rfl) rfl #[.agg #[.slice Ao61 t371.length co61, .slice Ao67 t374.length co67], .agg #[.slice Ao110 t394.length co110, .slice Ao111 t397.length co111]] (by rfl) rfl rfl lU ?_
        with_reducible refine (laws_eqArray.calls kj24 _ _ t371 _ _ t374 _ _ t394 _ _ t397 true _ ?side1 ?side2 ?side3 ?side4 ?side5 ?side6 ?side7 ?side8 A98.out).mono ?_
        (case side1 => exact cU (Kd.R_reads' HO_378000.out).2.2)
        (case side2 => exact (Kd.R_reads' HO_378000.out).2.1)
        (case side3 => exact cU (Kd.R_reads' HO_378001.out).2.2)
        (case side4 => exact (Kd.R_reads' HO_378001.out).2.1)
        (case side5 => exact cU (Kd.R_reads' HO396.out).2.2)
        (case side6 => exact (Kd.R_reads' HO396.out).2.1)
        (case side7 => exact cU (Kd.R_reads' HO399.out).2.2)
        (case side8 => exact (Kd.R_reads' HO399.out).2.1)
        rintro e w112 ⟨rfl, hb⟩
        refine ⟨_, rfl, ?_⟩
        replace HO_364000 := Aside0.mk (Kd.V_below (VU HO_364000.out) hb)
        replace HO_364001 := Aside0.mk (Kd.V_below (VU HO_364001.out) hb)
        replace HO_371000 := Aside0.mk (Kd.R_below (RU HO_371000.out) hb)
        replace HO_371001 := Aside0.mk (Kd.R_below (RU HO_371001.out) hb)
        replace HO_378000 := Aside0.mk (Kd.R_below (RU HO_378000.out) hb)
        replace HO_378001 := Aside0.mk (Kd.R_below (RU HO_378001.out) hb)
        replace HO_386000 := Aside0.mk (Kd.R_below (RU HO_386000.out) hb)
        replace HO_386001 := Aside0.mk (Kd.R_below (RU HO_386001.out) hb)
        replace HO389 := Aside0.mk (Kd.R_below (RU HO389.out) hb)
        replace HO392 := Aside0.mk (Kd.R_below (RU HO392.out) hb)
        replace HO396 := Aside0.mk (Kd.R_below (RU HO396.out) hb)
        replace HO399 := Aside0.mk (Kd.R_below (RU HO399.out) hb)
        replace BK340 := Aside0.mk (kB BK340.out hb)
        replace BK341 := Aside0.mk (kB BK341.out hb)
        replace BK363 := Aside0.mk (kB BK363.out hb)
        replace BK370 := Aside0.mk (kB BK370.out hb)
        replace BK377 := Aside0.mk (kB BK377.out hb)
        replace BK385 := Aside0.mk (kB BK385.out hb)
        replace HB := Aside0.mk (below_step (bS6 HB.out GE340.out GE341.out GE363.out GE370.out GE377.out GE385.out) hb)
        (try clear hb)
        (try clear hb2)
        (try clear hk)
        (try clear hi)
        refine hK.out _ _ ⟨(blk_cell BK377.out 0).trans rfl, (blk_cell BK377.out 1).trans rfl, (blk_cell BK341.out 0).trans rfl, (blk_cell BK341.out 1).trans rfl⟩ (fun hHeld => ?_)
        clear hK K
        refine norm_ (a' := ?_) ?_ ?_
        rotate_left
        ·
         show Act.put _ (some 62) _ = _
         simp only [Act.put, List.setIfInBounds_toArray, List.set_cons_zero, List.set_cons_succ, i64_w, i32_w]
         rfl
        refine pure_ (i := 4) (N := some 63) (v := ?_) (a' := ?_) #[true, true, true, true, true] rfl rfl (by kernel_rfl) (fun _ _ _ h => h) (Or.inl ⟨by rfl, ?_⟩) ?_ ?_
        rotate_left
        ·
         intro w'
         go_simp
         with_reducible rfl
        rotate_left
        ·
         simp only [Act.put, List.setIfInBounds_toArray, List.set_cons_zero, List.set_cons_succ, i64_w, i32_w]
         rfl
        refine done_ (by kernel_rfl) ?_
        have hnb113 := NB370_340.out
        have hnc113 := NB340_370.out
        have hnb114 := NB370_341.out
        have hnc114 := NB341_370.out
        have hnb115 := NB370_363.out
        have hnc115 := NB363_370.out
        have hnb116 := NB370_377.out
        have hnc116 := NB377_370.out
        have hnb117 := NB370_385.out
        have hnc117 := NB385_370.out
        have hcz118_0 : w112.cell? ⟨gb370, 0, none⟩ = some (.slice Ao51 t364.length co51) := (blk_cell BK370.out 0).trans rfl
        have hcz118_1 : w112.cell? ⟨gb370, 1, none⟩ = some (.slice Ao56 t367.length co56) := (blk_cell BK370.out 1).trans rfl
        have hfz118_0 := blk_frozen BK370.out 0
        have hfz118_1 := blk_frozen BK370.out 1
        go_upto_region 21 with (first | ((with_reducible refine gate_callee (f := 20) rfl ?_); refine goesL_ (some 66) rfl rfl Try.func20 (by kernel_rfl) rfl #[.agg #[.slice Ao51 t364.length co51, .slice Ao56 t367.length co56], .int .i64 1] rfl lU ?_; (with_reducible refine (laws_markArray.calls kj24 (fun k_ => some k_ = (.slice Ao51 t364.length co51 : Value).ownBlock) (.slice Ao51 t364.length co51) t364 (fun k_ => some k_ = (.slice Ao56 t367.length co56 : Value).ownBlock) (.slice Ao56 t367.length co56) t367 1 t401 t402 t403 w _ ?side1 ?side2 ?side3 ?side4 ?side5 A100.out).mono ?_); (case side1 => exact bS6 HB.out GE340.out GE341.out GE363.out GE370.out GE377.out GE385.out); (case side2 => exact Kd.R_tight rfl HO_371000.out); (case side3 => exact fun k_ e_ => (HO_371000.out.1 k_ e_.symm).1.1.1.1.1); (case side4 => exact Kd.R_tight rfl HO_371001.out); (case side5 => exact fun k_ e_ => (HO_371001.out.1 k_ e_.symm).1.1.1.1.1); rintro e w119 ⟨rfl, hy0, hy1, hb, hkp⟩; refine ⟨_, rfl, ?_⟩; replace HO_364000 := Aside0.mk (Kd.V_mono (ok' := fun k_ => some k_ ≠ (.slice Ao51 t364.length co51 : Value).ownBlock ∧ some k_ ≠ (.slice Ao56 t367.length co56 : Value).ownBlock ∧ some k_ ≠ (.slice Ao61 t371.length co61 : Value).ownBlock ∧ some k_ ≠ (.slice Ao67 t374.length co67 : Value).ownBlock ∧ some k_ ≠ (.slice Ao71 t378.length co71 : Value).ownBlock ∧ some k_ ≠ (.slice Ao78 t381.length co78 : Value).ownBlock ∧ some k_ ≠ (.slice Ao105 t387.length co105 : Value).ownBlock ∧ some k_ ≠ (.slice Ao106 t390.length co106 : Value).ownBlock ∧ some k_ ≠ (.slice Ao110 t394.length co110 : Value).ownBlock ∧ some k_ ≠ (.slice Ao111 t397.length co111 : Value).ownBlock ∧ k_ ≠ gb340 ∧ k_ ≠ gb341 ∧ k_ ≠ gb363 ∧ k_ ≠ gb370 ∧ k_ ≠ gb377 ∧ k_ ≠ gb385) (Kd.V_keptB (HO_364000.out) hkp (fun k_ hk_ hs_ => Or.elim hs_ (fun e_ => (hk_.1.1.1.1.1) e_) (fun e_ => (hk_.1.1.1.1.2.1) e_))) (fun k_ hk_ => ⟨hk_.1.1.1.1.1.1, hk_.1.1.1.1.1.2.1, hk_.1.1.1.1.1.2.2.1, hk_.1.1.1.1.1.2.2.2.1, hk_.1.1.1.1.1.2.2.2.2.1, hk_.1.1.1.1.1.2.2.2.2.2.1, hk_.1.1.1.1.2, hk_.1.1.1.2, hk_.1.1.2, hk_.1.2, hk_.1.1.1.1.1.2.2.2.2.2.2.1, hk_.1.1.1.1.1.2.2.2.2.2.2.2.1, hk_.1.1.1.1.1.2.2.2.2.2.2.2.2.1, hk_.1.1.1.1.1.2.2.2.2.2.2.2.2.2.1, hk_.1.1.1.1.1.2.2.2.2.2.2.2.2.2.2.1, hk_.1.1.1.1.1.2.2.2.2.2.2.2.2.2.2.2⟩)); replace HO_364001 := Aside0.mk (Kd.V_mono (ok' := fun k_ => some k_ ≠ (.slice Ao51 t364.length co51 : Value).ownBlock ∧ some k_ ≠ (.slice Ao56 t367.length co56 : Value).ownBlock ∧ some k_ ≠ (.slice Ao61 t371.length co61 : Value).ownBlock ∧ some k_ ≠ (.slice Ao67 t374.length co67 : Value).ownBlock ∧ some k_ ≠ (.slice Ao71 t378.length co71 : Value).ownBlock ∧ some k_ ≠ (.slice Ao78 t381.length co78 : Value).ownBlock ∧ some k_ ≠ (.slice Ao105 t387.length co105 : Value).ownBlock ∧ some k_ ≠ (.slice Ao106 t390.length co106 : Value).ownBlock ∧ some k_ ≠ (.slice Ao110 t394.length co110 : Value).ownBlock ∧ some k_ ≠ (.slice Ao111 t397.length co111 : Value).ownBlock ∧ k_ ≠ gb340 ∧ k_ ≠ gb341 ∧ k_ ≠ gb363 ∧ k_ ≠ gb370 ∧ k_ ≠ gb377 ∧ k_ ≠ gb385) (Kd.V_keptB (HO_364001.out) hkp (fun k_ hk_ hs_ => Or.elim hs_ (fun e_ => (hk_.1.1.1.1.1) e_) (fun e_ => (hk_.1.1.1.1.2.1) e_))) (fun k_ hk_ => ⟨hk_.1.1.1.1.1.1, hk_.1.1.1.1.1.2.1, hk_.1.1.1.1.1.2.2.1, hk_.1.1.1.1.1.2.2.2.1, hk_.1.1.1.1.1.2.2.2.2.1, hk_.1.1.1.1.1.2.2.2.2.2.1, hk_.1.1.1.1.2, hk_.1.1.1.2, hk_.1.1.2, hk_.1.2, hk_.1.1.1.1.1.2.2.2.2.2.2.1, hk_.1.1.1.1.1.2.2.2.2.2.2.2.1, hk_.1.1.1.1.1.2.2.2.2.2.2.2.2.1, hk_.1.1.1.1.1.2.2.2.2.2.2.2.2.2.1, hk_.1.1.1.1.1.2.2.2.2.2.2.2.2.2.2.1, hk_.1.1.1.1.1.2.2.2.2.2.2.2.2.2.2.2⟩)); replace HO_378000 := Aside0.mk (Kd.R_mono (ok' := fun k_ => some k_ ≠ (.slice Ao51 t364.length co51 : Value).ownBlock ∧ some k_ ≠ (.slice Ao56 t367.length co56 : Value).ownBlock ∧ some k_ ≠ (.slice Ao67 t374.length co67 : Value).ownBlock ∧ some k_ ≠ (.slice Ao71 t378.length co71 : Value).ownBlock ∧ some k_ ≠ (.slice Ao78 t381.length co78 : Value).ownBlock ∧ some k_ ≠ (.slice Ao105 t387.length co105 : Value).ownBlock ∧ some k_ ≠ (.slice Ao106 t390.length co106 : Value).ownBlock ∧ some k_ ≠ (.slice Ao110 t394.length co110 : Value).ownBlock ∧ some k_ ≠ (.slice Ao111 t397.length co111 : Value).ownBlock) (Kd.R_keptB (HO_378000.out) hkp (fun k_ hk_ hs_ => Or.elim hs_ (fun e_ => (hk_.1.1.1.1.1) e_) (fun e_ => (hk_.1.1.1.1.2.1) e_))) (fun k_ hk_ => ⟨hk_.1.1.1.1.1.1, hk_.1.1.1.1.1.2.1, hk_.1.1.1.1.1.2.2.1, hk_.1.1.1.1.1.2.2.2.1, hk_.1.1.1.1.1.2.2.2.2, hk_.1.1.1.1.2, hk_.1.1.1.2, hk_.1.1.2, hk_.1.2⟩)); replace HO_378001 := Aside0.mk (Kd.R_mono (ok' := fun k_ => some k_ ≠ (.slice Ao51 t364.length co51 : Value).ownBlock ∧ some k_ ≠ (.slice Ao56 t367.length co56 : Value).ownBlock ∧ some k_ ≠ (.slice Ao61 t371.length co61 : Value).ownBlock ∧ some k_ ≠ (.slice Ao71 t378.length co71 : Value).ownBlock ∧ some k_ ≠ (.slice Ao78 t381.length co78 : Value).ownBlock ∧ some k_ ≠ (.slice Ao105 t387.length co105 : Value).ownBlock ∧ some k_ ≠ (.slice Ao106 t390.length co106 : Value).ownBlock ∧ some k_ ≠ (.slice Ao110 t394.length co110 : Value).ownBlock ∧ some k_ ≠ (.slice Ao111 t397.length co111 : Value).ownBlock) (Kd.R_keptB (HO_378001.out) hkp (fun k_ hk_ hs_ => Or.elim hs_ (fun e_ => (hk_.1.1.1.1.1) e_) (fun e_ => (hk_.1.1.1.1.2.1) e_))) (fun k_ hk_ => ⟨hk_.1.1.1.1.1.1, hk_.1.1.1.1.1.2.1, hk_.1.1.1.1.1.2.2.1, hk_.1.1.1.1.1.2.2.2.1, hk_.1.1.1.1.1.2.2.2.2, hk_.1.1.1.1.2, hk_.1.1.1.2, hk_.1.1.2, hk_.1.2⟩)); replace HO_386000 := Aside0.mk (Kd.R_mono (ok' := fun k_ => some k_ ≠ (.slice Ao51 t364.length co51 : Value).ownBlock ∧ some k_ ≠ (.slice Ao56 t367.length co56 : Value).ownBlock ∧ some k_ ≠ (.slice Ao61 t371.length co61 : Value).ownBlock ∧ some k_ ≠ (.slice Ao67 t374.length co67 : Value).ownBlock ∧ some k_ ≠ (.slice Ao78 t381.length co78 : Value).ownBlock ∧ some k_ ≠ (.slice Ao105 t387.length co105 : Value).ownBlock ∧ some k_ ≠ (.slice Ao106 t390.length co106 : Value).ownBlock ∧ some k_ ≠ (.slice Ao110 t394.length co110 : Value).ownBlock ∧ some k_ ≠ (.slice Ao111 t397.length co111 : Value).ownBlock) (Kd.R_keptB (HO_386000.out) hkp (fun k_ hk_ hs_ => Or.elim hs_ (fun e_ => (hk_.1.1.1.1.1) e_) (fun e_ => (hk_.1.1.1.1.2.1) e_))) (fun k_ hk_ => ⟨hk_.1.1.1.1.1.1, hk_.1.1.1.1.1.2.1, hk_.1.1.1.1.1.2.2.1, hk_.1.1.1.1.1.2.2.2.1, hk_.1.1.1.1.1.2.2.2.2, hk_.1.1.1.1.2, hk_.1.1.1.2, hk_.1.1.2, hk_.1.2⟩)); replace HO_386001 := Aside0.mk (Kd.R_mono (ok' := fun k_ => some k_ ≠ (.slice Ao51 t364.length co51 : Value).ownBlock ∧ some k_ ≠ (.slice Ao56 t367.length co56 : Value).ownBlock ∧ some k_ ≠ (.slice Ao61 t371.length co61 : Value).ownBlock ∧ some k_ ≠ (.slice Ao67 t374.length co67 : Value).ownBlock ∧ some k_ ≠ (.slice Ao71 t378.length co71 : Value).ownBlock ∧ some k_ ≠ (.slice Ao105 t387.length co105 : Value).ownBlock ∧ some k_ ≠ (.slice Ao106 t390.length co106 : Value).ownBlock ∧ some k_ ≠ (.slice Ao110 t394.length co110 : Value).ownBlock ∧ some k_ ≠ (.slice Ao111 t397.length co111 : Value).ownBlock) (Kd.R_keptB (HO_386001.out) hkp (fun k_ hk_ hs_ => Or.elim hs_ (fun e_ => (hk_.1.1.1.1.1) e_) (fun e_ => (hk_.1.1.1.1.2.1) e_))) (fun k_ hk_ => ⟨hk_.1.1.1.1.1.1, hk_.1.1.1.1.1.2.1, hk_.1.1.1.1.1.2.2.1, hk_.1.1.1.1.1.2.2.2.1, hk_.1.1.1.1.1.2.2.2.2, hk_.1.1.1.1.2, hk_.1.1.1.2, hk_.1.1.2, hk_.1.2⟩)); replace BK340 := Aside0.mk (blk_kept (kU BK340.out) hkp (fun hs_ => Or.elim hs_ (fun e_ => (fun e_ => (Kd.R_ne HO_371000.out BK340.out (by decide)) e_) e_) (fun e_ => (fun e_ => (Kd.R_ne HO_371001.out BK340.out (by decide)) e_) e_))); replace BK341 := Aside0.mk (blk_kept (kU BK341.out) hkp (fun hs_ => Or.elim hs_ (fun e_ => (fun e_ => (Kd.R_ne HO_371000.out BK341.out (by decide)) e_) e_) (fun e_ => (fun e_ => (Kd.R_ne HO_371001.out BK341.out (by decide)) e_) e_))); replace BK363 := Aside0.mk (blk_kept (kU BK363.out) hkp (fun hs_ => Or.elim hs_ (fun e_ => (fun e_ => (Kd.R_ne HO_371000.out BK363.out (by decide)) e_) e_) (fun e_ => (fun e_ => (Kd.R_ne HO_371001.out BK363.out (by decide)) e_) e_))); replace BK370 := Aside0.mk (blk_kept (kU BK370.out) hkp (fun hs_ => Or.elim hs_ (fun e_ => (fun e_ => (Kd.R_ne HO_371000.out BK370.out (by decide)) e_) e_) (fun e_ => (fun e_ => (Kd.R_ne HO_371001.out BK370.out (by decide)) e_) e_))); replace BK377 := Aside0.mk (blk_kept (kU BK377.out) hkp (fun hs_ => Or.elim hs_ (fun e_ => (fun e_ => (Kd.R_ne HO_371000.out BK377.out (by decide)) e_) e_) (fun e_ => (fun e_ => (Kd.R_ne HO_371001.out BK377.out (by decide)) e_) e_))); replace BK385 := Aside0.mk (blk_kept (kU BK385.out) hkp (fun hs_ => Or.elim hs_ (fun e_ => (fun e_ => (Kd.R_ne HO_371000.out BK385.out (by decide)) e_) e_) (fun e_ => (fun e_ => (Kd.R_ne HO_371001.out BK385.out (by decide)) e_) e_))); replace HO_371000 := Aside0.mk (Kd.R_reok rfl hy0 (fun k_ e_ => HO_371000.out.1 k_ e_)); replace HO_371001 := Aside0.mk (Kd.R_reok rfl hy1 (fun k_ e_ => HO_371001.out.1 k_ e_)); replace HO389 := Aside0.mk (Kd.R_mono (ok' := fun k_ => some k_ ≠ (.slice Ao51 t364.length co51 : Value).ownBlock ∧ some k_ ≠ (.slice Ao56 t367.length co56 : Value).ownBlock ∧ some k_ ≠ (.slice Ao61 t371.length co61 : Value).ownBlock ∧ some k_ ≠ (.slice Ao67 t374.length co67 : Value).ownBlock ∧ some k_ ≠ (.slice Ao71 t378.length co71 : Value).ownBlock ∧ some k_ ≠ (.slice Ao78 t381.length co78 : Value).ownBlock ∧ some k_ ≠ (.slice Ao106 t390.length co106 : Value).ownBlock ∧ some k_ ≠ (.slice Ao110 t394.length co110 : Value).ownBlock ∧ some k_ ≠ (.slice Ao111 t397.length co111 : Value).ownBlock) (Kd.R_keptB (HO389.out) hkp (fun k_ hk_ hs_ => Or.elim hs_ (fun e_ => (hk_.1.1.1.1.1.1.1.2) e_) (fun e_ => (hk_.1.1.1.1.1.1.2) e_))) (fun k_ hk_ => ⟨hk_.1.1.1.1.1.1.1.1.2, hk_.1.1.1.1.1.1.1.2, hk_.1.1.1.1.1.1.2, hk_.1.1.1.1.1.2, hk_.1.1.1.1.2, hk_.1.1.1.2, hk_.1.1.1.1.1.1.1.1.1, hk_.1.1.2, hk_.1.2⟩)); replace HO392 := Aside0.mk (Kd.R_mono (ok' := fun k_ => some k_ ≠ (.slice Ao51 t364.length co51 : Value).ownBlock ∧ some k_ ≠ (.slice Ao56 t367.length co56 : Value).ownBlock ∧ some k_ ≠ (.slice Ao61 t371.length co61 : Value).ownBlock ∧ some k_ ≠ (.slice Ao67 t374.length co67 : Value).ownBlock ∧ some k_ ≠ (.slice Ao71 t378.length co71 : Value).ownBlock ∧ some k_ ≠ (.slice Ao78 t381.length co78 : Value).ownBlock ∧ some k_ ≠ (.slice Ao105 t387.length co105 : Value).ownBlock ∧ some k_ ≠ (.slice Ao110 t394.length co110 : Value).ownBlock ∧ some k_ ≠ (.slice Ao111 t397.length co111 : Value).ownBlock) (Kd.R_keptB (HO392.out) hkp (fun k_ hk_ hs_ => Or.elim hs_ (fun e_ => (hk_.1.1.1.1.1.1.1.2) e_) (fun e_ => (hk_.1.1.1.1.1.1.2) e_))) (fun k_ hk_ => ⟨hk_.1.1.1.1.1.1.1.1.2, hk_.1.1.1.1.1.1.1.2, hk_.1.1.1.1.1.1.2, hk_.1.1.1.1.1.2, hk_.1.1.1.1.2, hk_.1.1.1.2, hk_.1.1.1.1.1.1.1.1.1, hk_.1.1.2, hk_.1.2⟩)); replace HO396 := Aside0.mk (Kd.R_mono (ok' := fun k_ => some k_ ≠ (.slice Ao51 t364.length co51 : Value).ownBlock ∧ some k_ ≠ (.slice Ao56 t367.length co56 : Value).ownBlock ∧ some k_ ≠ (.slice Ao61 t371.length co61 : Value).ownBlock ∧ some k_ ≠ (.slice Ao67 t374.length co67 : Value).ownBlock ∧ some k_ ≠ (.slice Ao71 t378.length co71 : Value).ownBlock ∧ some k_ ≠ (.slice Ao78 t381.length co78 : Value).ownBlock ∧ some k_ ≠ (.slice Ao105 t387.length co105 : Value).ownBlock ∧ some k_ ≠ (.slice Ao106 t390.length co106 : Value).ownBlock ∧ some k_ ≠ (.slice Ao111 t397.length co111 : Value).ownBlock) (Kd.R_keptB (HO396.out) hkp (fun k_ hk_ hs_ => Or.elim hs_ (fun e_ => (hk_.1.1.1.1.1.1.1.2) e_) (fun e_ => (hk_.1.1.1.1.1.1.2) e_))) (fun k_ hk_ => ⟨hk_.1.1.1.1.1.1.1.1.2, hk_.1.1.1.1.1.1.1.2, hk_.1.1.1.1.1.1.2, hk_.1.1.1.1.1.2, hk_.1.1.1.1.2, hk_.1.1.1.2, hk_.1.1.2, hk_.1.2, hk_.1.1.1.1.1.1.1.1.1⟩)); replace HO399 := Aside0.mk (Kd.R_mono (ok' := fun k_ => some k_ ≠ (.slice Ao51 t364.length co51 : Value).ownBlock ∧ some k_ ≠ (.slice Ao56 t367.length co56 : Value).ownBlock ∧ some k_ ≠ (.slice Ao61 t371.length co61 : Value).ownBlock ∧ some k_ ≠ (.slice Ao67 t374.length co67 : Value).ownBlock ∧ some k_ ≠ (.slice Ao71 t378.length co71 : Value).ownBlock ∧ some k_ ≠ (.slice Ao78 t381.length co78 : Value).ownBlock ∧ some k_ ≠ (.slice Ao105 t387.length co105 : Value).ownBlock ∧ some k_ ≠ (.slice Ao106 t390.length co106 : Value).ownBlock ∧ some k_ ≠ (.slice Ao110 t394.length co110 : Value).ownBlock) (Kd.R_keptB (HO399.out) hkp (fun k_ hk_ hs_ => Or.elim hs_ (fun e_ => (hk_.1.1.1.1.1.1.1.2) e_) (fun e_ => (hk_.1.1.1.1.1.1.2) e_))) (fun k_ hk_ => ⟨hk_.1.1.1.1.1.1.1.1.2, hk_.1.1.1.1.1.1.1.2, hk_.1.1.1.1.1.1.2, hk_.1.1.1.1.1.2, hk_.1.1.1.1.2, hk_.1.1.1.2, hk_.1.1.2, hk_.1.2, hk_.1.1.1.1.1.1.1.1.1⟩)); replace HB := Aside0.mk (hb); (try clear hb); (try clear hkp); (try clear hy0); (try clear hy1); have hnb120 := NB377_340.out; have hnc120 := NB340_377.out; have hnb121 := NB377_341.out; have hnc121 := NB341_377.out; have hnb122 := NB377_363.out; have hnc122 := NB363_377.out; have hnb123 := NB377_385.out; have hnc123 := NB385_377.out; have hcz124_0 : w119.cell? ⟨gb377, 0, none⟩ = some (.slice Ao61 t371.length co61) := (blk_cell BK377.out 0).trans rfl; have hcz124_1 : w119.cell? ⟨gb377, 1, none⟩ = some (.slice Ao67 t374.length co67) := (blk_cell BK377.out 1).trans rfl; have hfz124_0 := blk_frozen BK377.out 0; have hfz124_1 := blk_frozen BK377.out 1) | ((with_reducible refine gate_callee (f := 20) rfl ?_); refine goesL_ (some 69) rfl rfl Try.func20 (by kernel_rfl) rfl #[.agg #[.slice Ao61 t371.length co61, .slice Ao67 t374.length co67], .int .i64 t401] rfl lU ?_; (with_reducible refine (laws_markArray.calls kj24 (fun k_ => some k_ = (.slice Ao61 t371.length co61 : Value).ownBlock) (.slice Ao61 t371.length co61) t371 (fun k_ => some k_ = (.slice Ao67 t374.length co67 : Value).ownBlock) (.slice Ao67 t374.length co67) t374 t401 t404 t405 t406 w _ ?side1 ?side2 ?side3 ?side4 ?side5 A101.out).mono ?_); (case side1 => exact bS6 HB.out GE340.out GE341.out GE363.out GE370.out GE377.out GE385.out); (case side2 => exact Kd.R_tight rfl HO_378000.out); (case side3 => exact fun k_ e_ => (HO_378000.out.1 k_ e_.symm).2.2.1); (case side4 => exact Kd.R_tight rfl HO_378001.out); (case side5 => exact fun k_ e_ => (HO_378001.out.1 k_ e_.symm).2.2.1); rintro e w125 ⟨rfl, hy0, hy1, hb, hkp⟩; refine ⟨_, rfl, ?_⟩; replace HO_364000 := Aside0.mk (Kd.V_mono (ok' := fun k_ => some k_ ≠ (.slice Ao51 t364.length co51 : Value).ownBlock ∧ some k_ ≠ (.slice Ao56 t367.length co56 : Value).ownBlock ∧ some k_ ≠ (.slice Ao61 t371.length co61 : Value).ownBlock ∧ some k_ ≠ (.slice Ao67 t374.length co67 : Value).ownBlock ∧ some k_ ≠ (.slice Ao71 t378.length co71 : Value).ownBlock ∧ some k_ ≠ (.slice Ao78 t381.length co78 : Value).ownBlock ∧ some k_ ≠ (.slice Ao105 t387.length co105 : Value).ownBlock ∧ some k_ ≠ (.slice Ao106 t390.length co106 : Value).ownBlock ∧ some k_ ≠ (.slice Ao110 t394.length co110 : Value).ownBlock ∧ some k_ ≠ (.slice Ao111 t397.length co111 : Value).ownBlock ∧ k_ ≠ gb340 ∧ k_ ≠ gb341 ∧ k_ ≠ gb363 ∧ k_ ≠ gb370 ∧ k_ ≠ gb377 ∧ k_ ≠ gb385) (Kd.V_keptB (HO_364000.out) hkp (fun k_ hk_ hs_ => Or.elim hs_ (fun e_ => (hk_.2.2.1) e_) (fun e_ => (hk_.2.2.2.1) e_))) (fun k_ hk_ => ⟨hk_.1.1, hk_.1.2.1, hk_.1.2.2.1, hk_.1.2.2.2.1, hk_.1.2.2.2.2.1, hk_.1.2.2.2.2.2.1, hk_.1.2.2.2.2.2.2.1, hk_.1.2.2.2.2.2.2.2.1, hk_.1.2.2.2.2.2.2.2.2.1, hk_.1.2.2.2.2.2.2.2.2.2.1, hk_.1.2.2.2.2.2.2.2.2.2.2.1, hk_.1.2.2.2.2.2.2.2.2.2.2.2.1, hk_.1.2.2.2.2.2.2.2.2.2.2.2.2.1, hk_.1.2.2.2.2.2.2.2.2.2.2.2.2.2.1, hk_.1.2.2.2.2.2.2.2.2.2.2.2.2.2.2.1, hk_.1.2.2.2.2.2.2.2.2.2.2.2.2.2.2.2⟩)); replace HO_364001 := Aside0.mk (Kd.V_mono (ok' := fun k_ => some k_ ≠ (.slice Ao51 t364.length co51 : Value).ownBlock ∧ some k_ ≠ (.slice Ao56 t367.length co56 : Value).ownBlock ∧ some k_ ≠ (.slice Ao61 t371.length co61 : Value).ownBlock ∧ some k_ ≠ (.slice Ao67 t374.length co67 : Value).ownBlock ∧ some k_ ≠ (.slice Ao71 t378.length co71 : Value).ownBlock ∧ some k_ ≠ (.slice Ao78 t381.length co78 : Value).ownBlock ∧ some k_ ≠ (.slice Ao105 t387.length co105 : Value).ownBlock ∧ some k_ ≠ (.slice Ao106 t390.length co106 : Value).ownBlock ∧ some k_ ≠ (.slice Ao110 t394.length co110 : Value).ownBlock ∧ some k_ ≠ (.slice Ao111 t397.length co111 : Value).ownBlock ∧ k_ ≠ gb340 ∧ k_ ≠ gb341 ∧ k_ ≠ gb363 ∧ k_ ≠ gb370 ∧ k_ ≠ gb377 ∧ k_ ≠ gb385) (Kd.V_keptB (HO_364001.out) hkp (fun k_ hk_ hs_ => Or.elim hs_ (fun e_ => (hk_.2.2.1) e_) (fun e_ => (hk_.2.2.2.1) e_))) (fun k_ hk_ => ⟨hk_.1.1, hk_.1.2.1, hk_.1.2.2.1, hk_.1.2.2.2.1, hk_.1.2.2.2.2.1, hk_.1.2.2.2.2.2.1, hk_.1.2.2.2.2.2.2.1, hk_.1.2.2.2.2.2.2.2.1, hk_.1.2.2.2.2.2.2.2.2.1, hk_.1.2.2.2.2.2.2.2.2.2.1, hk_.1.2.2.2.2.2.2.2.2.2.2.1, hk_.1.2.2.2.2.2.2.2.2.2.2.2.1, hk_.1.2.2.2.2.2.2.2.2.2.2.2.2.1, hk_.1.2.2.2.2.2.2.2.2.2.2.2.2.2.1, hk_.1.2.2.2.2.2.2.2.2.2.2.2.2.2.2.1, hk_.1.2.2.2.2.2.2.2.2.2.2.2.2.2.2.2⟩)); replace HO_371000 := Aside0.mk (Kd.R_mono (ok' := fun k_ => some k_ ≠ (.slice Ao56 t367.length co56 : Value).ownBlock ∧ some k_ ≠ (.slice Ao61 t371.length co61 : Value).ownBlock ∧ some k_ ≠ (.slice Ao67 t374.length co67 : Value).ownBlock ∧ some k_ ≠ (.slice Ao71 t378.length co71 : Value).ownBlock ∧ some k_ ≠ (.slice Ao78 t381.length co78 : Value).ownBlock ∧ some k_ ≠ (.slice Ao105 t387.length co105 : Value).ownBlock ∧ some k_ ≠ (.slice Ao106 t390.length co106 : Value).ownBlock ∧ some k_ ≠ (.slice Ao110 t394.length co110 : Value).ownBlock ∧ some k_ ≠ (.slice Ao111 t397.length co111 : Value).ownBlock) (Kd.R_keptB (HO_371000.out) hkp (fun k_ hk_ hs_ => Or.elim hs_ (fun e_ => (hk_.1.1.1.1.2.1) e_) (fun e_ => (hk_.1.1.1.1.2.2.1) e_))) (fun k_ hk_ => ⟨hk_.1.1.1.1.1.1, hk_.1.1.1.1.1.2.1, hk_.1.1.1.1.1.2.2.1, hk_.1.1.1.1.1.2.2.2.1, hk_.1.1.1.1.1.2.2.2.2, hk_.1.1.1.1.2, hk_.1.1.1.2, hk_.1.1.2, hk_.1.2⟩)); replace HO_371001 := Aside0.mk (Kd.R_mono (ok' := fun k_ => some k_ ≠ (.slice Ao51 t364.length co51 : Value).ownBlock ∧ some k_ ≠ (.slice Ao61 t371.length co61 : Value).ownBlock ∧ some k_ ≠ (.slice Ao67 t374.length co67 : Value).ownBlock ∧ some k_ ≠ (.slice Ao71 t378.length co71 : Value).ownBlock ∧ some k_ ≠ (.slice Ao78 t381.length co78 : Value).ownBlock ∧ some k_ ≠ (.slice Ao105 t387.length co105 : Value).ownBlock ∧ some k_ ≠ (.slice Ao106 t390.length co106 : Value).ownBlock ∧ some k_ ≠ (.slice Ao110 t394.length co110 : Value).ownBlock ∧ some k_ ≠ (.slice Ao111 t397.length co111 : Value).ownBlock) (Kd.R_keptB (HO_371001.out) hkp (fun k_ hk_ hs_ => Or.elim hs_ (fun e_ => (hk_.1.1.1.1.2.1) e_) (fun e_ => (hk_.1.1.1.1.2.2.1) e_))) (fun k_ hk_ => ⟨hk_.1.1.1.1.1.1, hk_.1.1.1.1.1.2.1, hk_.1.1.1.1.1.2.2.1, hk_.1.1.1.1.1.2.2.2.1, hk_.1.1.1.1.1.2.2.2.2, hk_.1.1.1.1.2, hk_.1.1.1.2, hk_.1.1.2, hk_.1.2⟩)); replace HO_386000 := Aside0.mk (Kd.R_mono (ok' := fun k_ => some k_ ≠ (.slice Ao51 t364.length co51 : Value).ownBlock ∧ some k_ ≠ (.slice Ao56 t367.length co56 : Value).ownBlock ∧ some k_ ≠ (.slice Ao61 t371.length co61 : Value).ownBlock ∧ some k_ ≠ (.slice Ao67 t374.length co67 : Value).ownBlock ∧ some k_ ≠ (.slice Ao78 t381.length co78 : Value).ownBlock ∧ some k_ ≠ (.slice Ao105 t387.length co105 : Value).ownBlock ∧ some k_ ≠ (.slice Ao106 t390.length co106 : Value).ownBlock ∧ some k_ ≠ (.slice Ao110 t394.length co110 : Value).ownBlock ∧ some k_ ≠ (.slice Ao111 t397.length co111 : Value).ownBlock) (Kd.R_keptB (HO_386000.out) hkp (fun k_ hk_ hs_ => Or.elim hs_ (fun e_ => (hk_.2.2.1) e_) (fun e_ => (hk_.2.2.2.1) e_))) (fun k_ hk_ => ⟨hk_.1.1, hk_.1.2.1, hk_.1.2.2.1, hk_.1.2.2.2.1, hk_.1.2.2.2.2.1, hk_.1.2.2.2.2.2.1, hk_.1.2.2.2.2.2.2.1, hk_.1.2.2.2.2.2.2.2.1, hk_.1.2.2.2.2.2.2.2.2⟩)); replace HO_386001 := Aside0.mk (Kd.R_mono (ok' := fun k_ => some k_ ≠ (.slice Ao51 t364.length co51 : Value).ownBlock ∧ some k_ ≠ (.slice Ao56 t367.length co56 : Value).ownBlock ∧ some k_ ≠ (.slice Ao61 t371.length co61 : Value).ownBlock ∧ some k_ ≠ (.slice Ao67 t374.length co67 : Value).ownBlock ∧ some k_ ≠ (.slice Ao71 t378.length co71 : Value).ownBlock ∧ some k_ ≠ (.slice Ao105 t387.length co105 : Value).ownBlock ∧ some k_ ≠ (.slice Ao106 t390.length co106 : Value).ownBlock ∧ some k_ ≠ (.slice Ao110 t394.length co110 : Value).ownBlock ∧ some k_ ≠ (.slice Ao111 t397.length co111 : Value).ownBlock) (Kd.R_keptB (HO_386001.out) hkp (fun k_ hk_ hs_ => Or.elim hs_ (fun e_ => (hk_.2.2.1) e_) (fun e_ => (hk_.2.2.2.1) e_))) (fun k_ hk_ => ⟨hk_.1.1, hk_.1.2.1, hk_.1.2.2.1, hk_.1.2.2.2.1, hk_.1.2.2.2.2.1, hk_.1.2.2.2.2.2.1, hk_.1.2.2.2.2.2.2.1, hk_.1.2.2.2.2.2.2.2.1, hk_.1.2.2.2.2.2.2.2.2⟩)); replace BK340 := Aside0.mk (blk_kept (kU BK340.out) hkp (fun hs_ => Or.elim hs_ (fun e_ => (fun e_ => (Kd.R_ne HO_378000.out BK340.out (by decide)) e_) e_) (fun e_ => (fun e_ => (Kd.R_ne HO_378001.out BK340.out (by decide)) e_) e_))); replace BK341 := Aside0.mk (blk_kept (kU BK341.out) hkp (fun hs_ => Or.elim hs_ (fun e_ => (fun e_ => (Kd.R_ne HO_378000.out BK341.out (by decide)) e_) e_) (fun e_ => (fun e_ => (Kd.R_ne HO_378001.out BK341.out (by decide)) e_) e_))); replace BK363 := Aside0.mk (blk_kept (kU BK363.out) hkp (fun hs_ => Or.elim hs_ (fun e_ => (fun e_ => (Kd.R_ne HO_378000.out BK363.out (by decide)) e_) e_) (fun e_ => (fun e_ => (Kd.R_ne HO_378001.out BK363.out (by decide)) e_) e_))); replace BK370 := Aside0.mk (blk_kept (kU BK370.out) hkp (fun hs_ => Or.elim hs_ (fun e_ => (fun e_ => (Kd.R_ne HO_378000.out BK370.out (by decide)) e_) e_) (fun e_ => (fun e_ => (Kd.R_ne HO_378001.out BK370.out (by decide)) e_) e_))); replace BK377 := Aside0.mk (blk_kept (kU BK377.out) hkp (fun hs_ => Or.elim hs_ (fun e_ => (fun e_ => (Kd.R_ne HO_378000.out BK377.out (by decide)) e_) e_) (fun e_ => (fun e_ => (Kd.R_ne HO_378001.out BK377.out (by decide)) e_) e_))); replace BK385 := Aside0.mk (blk_kept (kU BK385.out) hkp (fun hs_ => Or.elim hs_ (fun e_ => (fun e_ => (Kd.R_ne HO_378000.out BK385.out (by decide)) e_) e_) (fun e_ => (fun e_ => (Kd.R_ne HO_378001.out BK385.out (by decide)) e_) e_))); replace HO_378000 := Aside0.mk (Kd.R_reok rfl hy0 (fun k_ e_ => HO_378000.out.1 k_ e_)); replace HO_378001 := Aside0.mk (Kd.R_reok rfl hy1 (fun k_ e_ => HO_378001.out.1 k_ e_)); replace HO389 := Aside0.mk (Kd.R_mono (ok' := fun k_ => some k_ ≠ (.slice Ao51 t364.length co51 : Value).ownBlock ∧ some k_ ≠ (.slice Ao56 t367.length co56 : Value).ownBlock ∧ some k_ ≠ (.slice Ao61 t371.length co61 : Value).ownBlock ∧ some k_ ≠ (.slice Ao67 t374.length co67 : Value).ownBlock ∧ some k_ ≠ (.slice Ao71 t378.length co71 : Value).ownBlock ∧ some k_ ≠ (.slice Ao78 t381.length co78 : Value).ownBlock ∧ some k_ ≠ (.slice Ao106 t390.length co106 : Value).ownBlock ∧ some k_ ≠ (.slice Ao110 t394.length co110 : Value).ownBlock ∧ some k_ ≠ (.slice Ao111 t397.length co111 : Value).ownBlock) (Kd.R_keptB (HO389.out) hkp (fun k_ hk_ hs_ => Or.elim hs_ (fun e_ => (hk_.2.2.1) e_) (fun e_ => (hk_.2.2.2.1) e_))) (fun k_ hk_ => ⟨hk_.1.1, hk_.1.2.1, hk_.1.2.2.1, hk_.1.2.2.2.1, hk_.1.2.2.2.2.1, hk_.1.2.2.2.2.2.1, hk_.1.2.2.2.2.2.2.1, hk_.1.2.2.2.2.2.2.2.1, hk_.1.2.2.2.2.2.2.2.2⟩)); replace HO392 := Aside0.mk (Kd.R_mono (ok' := fun k_ => some k_ ≠ (.slice Ao51 t364.length co51 : Value).ownBlock ∧ some k_ ≠ (.slice Ao56 t367.length co56 : Value).ownBlock ∧ some k_ ≠ (.slice Ao61 t371.length co61 : Value).ownBlock ∧ some k_ ≠ (.slice Ao67 t374.length co67 : Value).ownBlock ∧ some k_ ≠ (.slice Ao71 t378.length co71 : Value).ownBlock ∧ some k_ ≠ (.slice Ao78 t381.length co78 : Value).ownBlock ∧ some k_ ≠ (.slice Ao105 t387.length co105 : Value).ownBlock ∧ some k_ ≠ (.slice Ao110 t394.length co110 : Value).ownBlock ∧ some k_ ≠ (.slice Ao111 t397.length co111 : Value).ownBlock) (Kd.R_keptB (HO392.out) hkp (fun k_ hk_ hs_ => Or.elim hs_ (fun e_ => (hk_.2.2.1) e_) (fun e_ => (hk_.2.2.2.1) e_))) (fun k_ hk_ => ⟨hk_.1.1, hk_.1.2.1, hk_.1.2.2.1, hk_.1.2.2.2.1, hk_.1.2.2.2.2.1, hk_.1.2.2.2.2.2.1, hk_.1.2.2.2.2.2.2.1, hk_.1.2.2.2.2.2.2.2.1, hk_.1.2.2.2.2.2.2.2.2⟩)); replace HO396 := Aside0.mk (Kd.R_mono (ok' := fun k_ => some k_ ≠ (.slice Ao51 t364.length co51 : Value).ownBlock ∧ some k_ ≠ (.slice Ao56 t367.length co56 : Value).ownBlock ∧ some k_ ≠ (.slice Ao61 t371.length co61 : Value).ownBlock ∧ some k_ ≠ (.slice Ao67 t374.length co67 : Value).ownBlock ∧ some k_ ≠ (.slice Ao71 t378.length co71 : Value).ownBlock ∧ some k_ ≠ (.slice Ao78 t381.length co78 : Value).ownBlock ∧ some k_ ≠ (.slice Ao105 t387.length co105 : Value).ownBlock ∧ some k_ ≠ (.slice Ao106 t390.length co106 : Value).ownBlock ∧ some k_ ≠ (.slice Ao111 t397.length co111 : Value).ownBlock) (Kd.R_keptB (HO396.out) hkp (fun k_ hk_ hs_ => Or.elim hs_ (fun e_ => (hk_.2.2.1) e_) (fun e_ => (hk_.2.2.2.1) e_))) (fun k_ hk_ => ⟨hk_.1.1, hk_.1.2.1, hk_.1.2.2.1, hk_.1.2.2.2.1, hk_.1.2.2.2.2.1, hk_.1.2.2.2.2.2.1, hk_.1.2.2.2.2.2.2.1, hk_.1.2.2.2.2.2.2.2.1, hk_.1.2.2.2.2.2.2.2.2⟩)); replace HO399 := Aside0.mk (Kd.R_mono (ok' := fun k_ => some k_ ≠ (.slice Ao51 t364.length co51 : Value).ownBlock ∧ some k_ ≠ (.slice Ao56 t367.length co56 : Value).ownBlock ∧ some k_ ≠ (.slice Ao61 t371.length co61 : Value).ownBlock ∧ some k_ ≠ (.slice Ao67 t374.length co67 : Value).ownBlock ∧ some k_ ≠ (.slice Ao71 t378.length co71 : Value).ownBlock ∧ some k_ ≠ (.slice Ao78 t381.length co78 : Value).ownBlock ∧ some k_ ≠ (.slice Ao105 t387.length co105 : Value).ownBlock ∧ some k_ ≠ (.slice Ao106 t390.length co106 : Value).ownBlock ∧ some k_ ≠ (.slice Ao110 t394.length co110 : Value).ownBlock) (Kd.R_keptB (HO399.out) hkp (fun k_ hk_ hs_ => Or.elim hs_ (fun e_ => (hk_.2.2.1) e_) (fun e_ => (hk_.2.2.2.1) e_))) (fun k_ hk_ => ⟨hk_.1.1, hk_.1.2.1, hk_.1.2.2.1, hk_.1.2.2.2.1, hk_.1.2.2.2.2.1, hk_.1.2.2.2.2.2.1, hk_.1.2.2.2.2.2.2.1, hk_.1.2.2.2.2.2.2.2.1, hk_.1.2.2.2.2.2.2.2.2⟩)); replace HB := Aside0.mk (hb); (try clear hb); (try clear hkp); (try clear hy0); (try clear hy1)))
        (try simp only [Act.put, List.setIfInBounds_toArray, List.set_cons_zero, List.set_cons_succ])
        go_cut [82] (fun v82 wc => ∃ (kq : Nat) (x82_101 : Bool), v82 = .bool x82_101 ∧ Aside0 (laws_FnExactJoin.j1 kq t362 x82_101 l0_0 l0_1 l1_0 l1_1 t356 t359 t378 t381 = some r) ∧ Aside0 (kq ≤ kj24) ∧ Aside0 (Kd.V (Kd.int .i64) 3 wc w.heap.size (fun k_ => some k_ ≠ ((.slice Ao51 t364.length co51) : Value).ownBlock ∧ some k_ ≠ ((.slice Ao56 t367.length co56) : Value).ownBlock ∧ some k_ ≠ ((.slice Ao61 t371.length co61) : Value).ownBlock ∧ some k_ ≠ ((.slice Ao67 t374.length co67) : Value).ownBlock ∧ some k_ ≠ ((.slice Ao71 t378.length co71) : Value).ownBlock ∧ some k_ ≠ ((.slice Ao78 t381.length co78) : Value).ownBlock ∧ k_ ≠ gb340 ∧ k_ ≠ gb341 ∧ k_ ≠ gb363 ∧ k_ ≠ gb370 ∧ k_ ≠ gb377 ∧ k_ ≠ gb385) (.slice Ao43 t356.length co43) t356) ∧ Aside0 (Kd.V (Kd.int .i64) 3 wc w.heap.size (fun k_ => some k_ ≠ ((.slice Ao51 t364.length co51) : Value).ownBlock ∧ some k_ ≠ ((.slice Ao56 t367.length co56) : Value).ownBlock ∧ some k_ ≠ ((.slice Ao61 t371.length co61) : Value).ownBlock ∧ some k_ ≠ ((.slice Ao67 t374.length co67) : Value).ownBlock ∧ some k_ ≠ ((.slice Ao71 t378.length co71) : Value).ownBlock ∧ some k_ ≠ ((.slice Ao78 t381.length co78) : Value).ownBlock ∧ k_ ≠ gb340 ∧ k_ ≠ gb341 ∧ k_ ≠ gb363 ∧ k_ ≠ gb370 ∧ k_ ≠ gb377 ∧ k_ ≠ gb385) (.slice Ao45 t359.length co45) t359) ∧ Aside0 (Kd.R (Kd.int .i64) 3 wc w.heap.size (fun k_ => some k_ ≠ ((.slice Ao56 t367.length co56) : Value).ownBlock ∧ some k_ ≠ ((.slice Ao61 t371.length co61) : Value).ownBlock ∧ some k_ ≠ ((.slice Ao67 t374.length co67) : Value).ownBlock ∧ some k_ ≠ ((.slice Ao71 t378.length co71) : Value).ownBlock ∧ some k_ ≠ ((.slice Ao78 t381.length co78) : Value).ownBlock) (.slice Ao51 t364.length co51) t402) ∧ Aside0 (Kd.R (Kd.int .i64) 3 wc w.heap.size (fun k_ => some k_ ≠ ((.slice Ao51 t364.length co51) : Value).ownBlock ∧ some k_ ≠ ((.slice Ao61 t371.length co61) : Value).ownBlock ∧ some k_ ≠ ((.slice Ao67 t374.length co67) : Value).ownBlock ∧ some k_ ≠ ((.slice Ao71 t378.length co71) : Value).ownBlock ∧ some k_ ≠ ((.slice Ao78 t381.length co78) : Value).ownBlock) (.slice Ao56 t367.length co56) t403) ∧ Aside0 (Kd.R (Kd.int .i64) 3 wc w.heap.size (fun k_ => some k_ ≠ ((.slice Ao51 t364.length co51) : Value).ownBlock ∧ some k_ ≠ ((.slice Ao56 t367.length co56) : Value).ownBlock ∧ some k_ ≠ ((.slice Ao67 t374.length co67) : Value).ownBlock ∧ some k_ ≠ ((.slice Ao71 t378.length co71) : Value).ownBlock ∧ some k_ ≠ ((.slice Ao78 t381.length co78) : Value).ownBlock) (.slice Ao61 t371.length co61) t405) ∧ Aside0 (Kd.R (Kd.int .i64) 3 wc w.heap.size (fun k_ => some k_ ≠ ((.slice Ao51 t364.length co51) : Value).ownBlock ∧ some k_ ≠ ((.slice Ao56 t367.length co56) : Value).ownBlock ∧ some k_ ≠ ((.slice Ao61 t371.length co61) : Value).ownBlock ∧ some k_ ≠ ((.slice Ao71 t378.length co71) : Value).ownBlock ∧ some k_ ≠ ((.slice Ao78 t381.length co78) : Value).ownBlock) (.slice Ao67 t374.length co67) t406) ∧ Aside0 (Kd.R (Kd.int .i64) 3 wc w.heap.size (fun k_ => some k_ ≠ ((.slice Ao51 t364.length co51) : Value).ownBlock ∧ some k_ ≠ ((.slice Ao56 t367.length co56) : Value).ownBlock ∧ some k_ ≠ ((.slice Ao61 t371.length co61) : Value).ownBlock ∧ some k_ ≠ ((.slice Ao67 t374.length co67) : Value).ownBlock ∧ some k_ ≠ ((.slice Ao78 t381.length co78) : Value).ownBlock) (.slice Ao71 t378.length co71) t378) ∧ Aside0 (Kd.R (Kd.int .i64) 3 wc w.heap.size (fun k_ => some k_ ≠ ((.slice Ao51 t364.length co51) : Value).ownBlock ∧ some k_ ≠ ((.slice Ao56 t367.length co56) : Value).ownBlock ∧ some k_ ≠ ((.slice Ao61 t371.length co61) : Value).ownBlock ∧ some k_ ≠ ((.slice Ao67 t374.length co67) : Value).ownBlock ∧ some k_ ≠ ((.slice Ao71 t378.length co71) : Value).ownBlock) (.slice Ao78 t381.length co78) t381) ∧ Aside0 (wc.heap[gb340]? = some (.cells #[(.slice A0_0 l0_0.length c0_0), (.slice A0_1 l0_1.length c0_1)] 24 (0, 0))) ∧ Aside0 (wc.heap[gb341]? = some (.cells #[(.slice A1_0 l1_0.length c1_0), (.slice A1_1 l1_1.length c1_1)] 24 (0, 0))) ∧ Aside0 (wc.heap[gb363]? = some (.cells #[(.slice Ao43 t356.length co43), (.slice Ao45 t359.length co45)] 26 (0, 0))) ∧ Aside0 (wc.heap[gb370]? = some (.cells #[(.slice Ao51 t364.length co51), (.slice Ao56 t367.length co56)] 26 (0, 0))) ∧ Aside0 (wc.heap[gb377]? = some (.cells #[(.slice Ao61 t371.length co61), (.slice Ao67 t374.length co67)] 26 (0, 0))) ∧ Aside0 (wc.heap[gb385]? = some (.cells #[(.slice Ao71 t378.length co71), (.slice Ao78 t381.length co78)] 26 (0, 0))) ∧ Aside0 (Below w.heap.size w wc))
        case first =>
         have H := HC102.out
         clear HC102
         by_cases c126 : t404 < 0
         ·
          rw [if_pos c126] at H
          have c126b0 : decide (t404 < 0) = true := decide_eq_true c126
          clear c126
          (first | rw [c126b0] | (simp only [i64_w, i32_w]; rw [c126b0]) | skip)
          have hz_ : ∀ kz, laws_FnExactJoin.j1 kz t362 true l0_0 l0_1 l1_0 l1_1 t356 t359 t378 t381 = some r → r = false := by intro kz hz; cases kz with | zero => exact absurd hz (by simp [laws_FnExactJoin.j1]) | succ kz => simp only [laws_FnExactJoin.j1] at hz; first | (rw [if_pos rfl] at hz; exact (Option.some.inj hz).symm) | (simp at hz; exact hz.symm) | (simp at hz; exact hz)
          exact absurd (HT.out.symm.trans (hz_ _ H)) (by decide)
         ·
          rw [if_neg c126] at H
          have c126b0 : decide (t404 < 0) = false := decide_eq_false c126
          clear c126
          (first | rw [c126b0] | (simp only [i64_w, i32_w]; rw [c126b0]) | skip)
          replace H := Option.bind_eq_some_iff.mp H
          obtain ⟨t407, A1270, H⟩ := H
          replace H : (if t407 = true then (laws_FnExactJoin.j1 kj24 t362 (t384 != t362) l0_0 l0_1 l1_0 l1_1 t356 t359 t378 t381) else (laws_FnExactJoin.j1 kj24 t362 true l0_0 l0_1 l1_0 l1_1 t356 t359 t378 t381)) = some r := H
          have A127 := Aside0.mk A1270
          clear A1270
          by_cases c128 : t407 = true
          ·
           subst c128
           have H1 : (laws_FnExactJoin.j1 kj24 t362 (t384 != t362) l0_0 l0_1 l1_0 l1_1 t356 t359 t378 t381) = some r := by rw [if_pos rfl] at H; exact H
           clear H
           have H := H1
           clear H1
           have H' := Aside0.mk H
           clear H
           have hnb129 := NB385_340.out
           have hnc129 := NB340_385.out
           have hnb130 := NB385_341.out
           have hnc130 := NB341_385.out
           have hnb131 := NB385_363.out
           have hnc131 := NB363_385.out
           have hnb132 := NB385_370.out
           have hnc132 := NB370_385.out
           have hnb133 := NB385_377.out
           have hnc133 := NB377_385.out
           have hcz134_0 : w125.cell? ⟨gb385, 0, none⟩ = some (.slice Ao71 t378.length co71) := (blk_cell BK385.out 0).trans rfl
           have hcz134_1 : w125.cell? ⟨gb385, 1, none⟩ = some (.slice Ao78 t381.length co78) := (blk_cell BK385.out 1).trans rfl
           have hfz134_0 := blk_frozen BK385.out 0
           have hfz134_1 := blk_frozen BK385.out 1
           have hnb135 := NB363_340.out
           have hnc135 := NB340_363.out
           have hnb136 := NB363_341.out
           have hnc136 := NB341_363.out
           have hnb137 := NB363_370.out
           have hnc137 := NB370_363.out
           have hnb138 := NB363_377.out
           have hnc138 := NB377_363.out
           have hcz139_0 : w125.cell? ⟨gb363, 0, none⟩ = some (.slice Ao43 t356.length co43) := (blk_cell BK363.out 0).trans rfl
           have hcz139_1 : w125.cell? ⟨gb363, 1, none⟩ = some (.slice Ao45 t359.length co45) := (blk_cell BK363.out 1).trans rfl
           have hfz139_0 := blk_frozen BK363.out 0
           have hfz139_1 := blk_frozen BK363.out 1
           go_wp2_with (first | (go_at_call 19; (repeat rw [i64_w]); (with_reducible refine (laws_eqArray.calls kj24 _ _ t378 _ _ t381 _ _ t356 _ _ t359 true _ ?side1 ?side2 ?side3 ?side4 ?side5 ?side6 ?side7 ?side8 A127.out).mono ?_); (case side1 => exact cU (Kd.R_reads' HO_386000.out).2.2); (case side2 => exact (Kd.R_reads' HO_386000.out).2.1); (case side3 => exact cU (Kd.R_reads' HO_386001.out).2.2); (case side4 => exact (Kd.R_reads' HO_386001.out).2.1); (case side5 => exact cU (Kd.V_reads' HO_364000.out).2.2); (case side6 => exact (Kd.V_reads' HO_364000.out).2.1); (case side7 => exact cU (Kd.V_reads' HO_364001.out).2.2); (case side8 => exact (Kd.V_reads' HO_364001.out).2.1); rintro e w140 ⟨rfl, hb⟩; replace HO_364000 := Aside0.mk (Kd.V_below (VU HO_364000.out) hb); replace HO_364001 := Aside0.mk (Kd.V_below (VU HO_364001.out) hb); replace HO_371000 := Aside0.mk (Kd.R_below (RU HO_371000.out) hb); replace HO_371001 := Aside0.mk (Kd.R_below (RU HO_371001.out) hb); replace HO_378000 := Aside0.mk (Kd.R_below (RU HO_378000.out) hb); replace HO_378001 := Aside0.mk (Kd.R_below (RU HO_378001.out) hb); replace HO_386000 := Aside0.mk (Kd.R_below (RU HO_386000.out) hb); replace HO_386001 := Aside0.mk (Kd.R_below (RU HO_386001.out) hb); replace HO389 := Aside0.mk (Kd.R_below (RU HO389.out) hb); replace HO392 := Aside0.mk (Kd.R_below (RU HO392.out) hb); replace HO396 := Aside0.mk (Kd.R_below (RU HO396.out) hb); replace HO399 := Aside0.mk (Kd.R_below (RU HO399.out) hb); replace BK340 := Aside0.mk (kB BK340.out hb); replace BK341 := Aside0.mk (kB BK341.out hb); replace BK363 := Aside0.mk (kB BK363.out hb); replace BK370 := Aside0.mk (kB BK370.out hb); replace BK377 := Aside0.mk (kB BK377.out hb); replace BK385 := Aside0.mk (kB BK385.out hb); replace HB := Aside0.mk (below_step (bS6 HB.out GE340.out GE341.out GE363.out GE370.out GE377.out GE385.out) hb); (try clear hb); (try clear hb2); (try clear hk); (try clear hi)))
           go_meet
           case rel => exact ⟨_, ((t384 != t362)), (by first | rfl | (simp; done) | (simp [*]; done)), H', ⟨by have := HJ24.out; first | omega | exact Nat.le_refl _⟩, ⟨by refine VU ?_; exact Kd.V_mono HO_364000.out (fun _ hk => ⟨hk.1, ⟨hk.2.1, ⟨hk.2.2.1, ⟨hk.2.2.2.1, ⟨hk.2.2.2.2.1, ⟨hk.2.2.2.2.2.1, ⟨hk.2.2.2.2.2.2.2.2.2.2.1, ⟨hk.2.2.2.2.2.2.2.2.2.2.2.1, ⟨hk.2.2.2.2.2.2.2.2.2.2.2.2.1, ⟨hk.2.2.2.2.2.2.2.2.2.2.2.2.2.1, ⟨hk.2.2.2.2.2.2.2.2.2.2.2.2.2.2.1, hk.2.2.2.2.2.2.2.2.2.2.2.2.2.2.2⟩⟩⟩⟩⟩⟩⟩⟩⟩⟩⟩)⟩, ⟨by refine VU ?_; exact Kd.V_mono HO_364001.out (fun _ hk => ⟨hk.1, ⟨hk.2.1, ⟨hk.2.2.1, ⟨hk.2.2.2.1, ⟨hk.2.2.2.2.1, ⟨hk.2.2.2.2.2.1, ⟨hk.2.2.2.2.2.2.2.2.2.2.1, ⟨hk.2.2.2.2.2.2.2.2.2.2.2.1, ⟨hk.2.2.2.2.2.2.2.2.2.2.2.2.1, ⟨hk.2.2.2.2.2.2.2.2.2.2.2.2.2.1, ⟨hk.2.2.2.2.2.2.2.2.2.2.2.2.2.2.1, hk.2.2.2.2.2.2.2.2.2.2.2.2.2.2.2⟩⟩⟩⟩⟩⟩⟩⟩⟩⟩⟩)⟩, ⟨by refine RU ?_; exact Kd.R_mono HO_371000.out (fun _ hk => ⟨hk.1, ⟨hk.2.1, ⟨hk.2.2.1, ⟨hk.2.2.2.1, hk.2.2.2.2.1⟩⟩⟩⟩)⟩, ⟨by refine RU ?_; exact Kd.R_mono HO_371001.out (fun _ hk => ⟨hk.1, ⟨hk.2.1, ⟨hk.2.2.1, ⟨hk.2.2.2.1, hk.2.2.2.2.1⟩⟩⟩⟩)⟩, ⟨by refine RU ?_; exact Kd.R_mono HO_378000.out (fun _ hk => ⟨hk.1, ⟨hk.2.1, ⟨hk.2.2.1, ⟨hk.2.2.2.1, hk.2.2.2.2.1⟩⟩⟩⟩)⟩, ⟨by refine RU ?_; exact Kd.R_mono HO_378001.out (fun _ hk => ⟨hk.1, ⟨hk.2.1, ⟨hk.2.2.1, ⟨hk.2.2.2.1, hk.2.2.2.2.1⟩⟩⟩⟩)⟩, ⟨by refine RU ?_; exact Kd.R_mono HO_386000.out (fun _ hk => ⟨hk.1, ⟨hk.2.1, ⟨hk.2.2.1, ⟨hk.2.2.2.1, hk.2.2.2.2.1⟩⟩⟩⟩)⟩, ⟨by refine RU ?_; exact Kd.R_mono HO_386001.out (fun _ hk => ⟨hk.1, ⟨hk.2.1, ⟨hk.2.2.1, ⟨hk.2.2.2.1, hk.2.2.2.2.1⟩⟩⟩⟩)⟩, ⟨by refine kU ?_; exact BK340.out⟩, ⟨by refine kU ?_; exact BK341.out⟩, ⟨by refine kU ?_; exact BK363.out⟩, ⟨by refine kU ?_; exact BK370.out⟩, ⟨by refine kU ?_; exact BK377.out⟩, ⟨by refine kU ?_; exact BK385.out⟩, ⟨by exact bS6 HB.out GE340.out GE341.out GE363.out GE370.out GE377.out GE385.out⟩⟩
          ·
           replace c128 := Bool.eq_false_iff.mpr c128
           subst c128
           have H1 : (laws_FnExactJoin.j1 kj24 t362 true l0_0 l0_1 l1_0 l1_1 t356 t359 t378 t381) = some r := by rw [if_neg (show ¬ (false = true) by decide)] at H; exact H
           clear H
           have H := H1
           clear H1
           have hz_ : ∀ kz, laws_FnExactJoin.j1 kz t362 true l0_0 l0_1 l1_0 l1_1 t356 t359 t378 t381 = some r → r = false := by intro kz hz; cases kz with | zero => exact absurd hz (by simp [laws_FnExactJoin.j1]) | succ kz => simp only [laws_FnExactJoin.j1] at hz; first | (rw [if_pos rfl] at hz; exact (Option.some.inj hz).symm) | (simp at hz; exact hz.symm) | (simp at hz; exact hz)
           exact absurd (HT.out.symm.trans (hz_ _ H)) (by decide)
        case rest =>
         clear HC102
         try clear c1
         try clear c2
         try clear p2
         try clear c9
         try clear c11
         try clear c12
         try clear c13
         try clear c17
         try clear c19
         try clear c20
         try clear c96
         try clear c99
         try clear c113
         try clear c114
         try clear c115
         try clear c116
         try clear c117
         try clear c120
         try clear c121
         try clear c122
         try clear c123
         try clear c126
         try clear c126b0
         try clear c128
         try clear c129
         try clear c130
         try clear c131
         try clear c132
         try clear c133
         try clear c135
         try clear c136
         try clear c137
         try clear c138
         try clear hcz118_0
         try clear hcz118_1
         try clear hcz124_0
         try clear hcz124_1
         try clear hcz134_0
         try clear hcz134_1
         try clear hcz139_0
         try clear hcz139_1
         try clear hfz118_0
         try clear hfz118_1
         try clear hfz124_0
         try clear hfz124_1
         try clear hfz134_0
         try clear hfz134_1
         try clear hfz139_0
         try clear hfz139_1
         obtain ⟨kq, x82_101, rfl, HA, HJ101, HO_364000, HO_364001, HO_371000, HO_371001, HO_378000, HO_378001, HO_386000, HO_386001, BK340, BK341, BK363, BK370, BK377, BK385, HB⟩ := hcut
         have hl371000_101 := (Kd.R_reads' HO_371000.out).1
         rw [hl371000_101] at HO_371000
         (try simp only [hl371000_101])
         (try simp only [hl371000_101] at BK340)
         (try simp only [hl371000_101] at BK341)
         (try simp only [hl371000_101] at BK363)
         (try simp only [hl371000_101] at BK370)
         (try simp only [hl371000_101] at BK377)
         (try simp only [hl371000_101] at BK385)
         (try simp only [hl371000_101] at HO_364000)
         (try simp only [hl371000_101] at HO_364001)
         (try simp only [hl371000_101] at HO_371001)
         (try simp only [hl371000_101] at HO_378000)
         (try simp only [hl371000_101] at HO_378001)
         (try simp only [hl371000_101] at HO_386000)
         (try simp only [hl371000_101] at HO_386001)
         have hl371001_101 := (Kd.R_reads' HO_371001.out).1
         rw [hl371001_101] at HO_371001
         (try simp only [hl371001_101])
         (try simp only [hl371001_101] at BK340)
         (try simp only [hl371001_101] at BK341)
         (try simp only [hl371001_101] at BK363)
         (try simp only [hl371001_101] at BK370)
         (try simp only [hl371001_101] at BK377)
         (try simp only [hl371001_101] at BK385)
         (try simp only [hl371001_101] at HO_364000)
         (try simp only [hl371001_101] at HO_364001)
         (try simp only [hl371001_101] at HO_371000)
         (try simp only [hl371001_101] at HO_378000)
         (try simp only [hl371001_101] at HO_378001)
         (try simp only [hl371001_101] at HO_386000)
         (try simp only [hl371001_101] at HO_386001)
         have hl378000_101 := (Kd.R_reads' HO_378000.out).1
         rw [hl378000_101] at HO_378000
         (try simp only [hl378000_101])
         (try simp only [hl378000_101] at BK340)
         (try simp only [hl378000_101] at BK341)
         (try simp only [hl378000_101] at BK363)
         (try simp only [hl378000_101] at BK370)
         (try simp only [hl378000_101] at BK377)
         (try simp only [hl378000_101] at BK385)
         (try simp only [hl378000_101] at HO_364000)
         (try simp only [hl378000_101] at HO_364001)
         (try simp only [hl378000_101] at HO_371000)
         (try simp only [hl378000_101] at HO_371001)
         (try simp only [hl378000_101] at HO_378001)
         (try simp only [hl378000_101] at HO_386000)
         (try simp only [hl378000_101] at HO_386001)
         have hl378001_101 := (Kd.R_reads' HO_378001.out).1
         rw [hl378001_101] at HO_378001
         (try simp only [hl378001_101])
         (try simp only [hl378001_101] at BK340)
         (try simp only [hl378001_101] at BK341)
         (try simp only [hl378001_101] at BK363)
         (try simp only [hl378001_101] at BK370)
         (try simp only [hl378001_101] at BK377)
         (try simp only [hl378001_101] at BK385)
         (try simp only [hl378001_101] at HO_364000)
         (try simp only [hl378001_101] at HO_364001)
         (try simp only [hl378001_101] at HO_371000)
         (try simp only [hl378001_101] at HO_371001)
         (try simp only [hl378001_101] at HO_378000)
         (try simp only [hl378001_101] at HO_386000)
         (try simp only [hl378001_101] at HO_386001)
         cases kq with
         | zero => exact absurd HA.out (by simp [laws_FnExactJoin.j1])
         | succ kj101 =>
          have H := HA.out
          clear HA
          simp only [laws_FnExactJoin.j1] at H
          by_cases c141 : x82_101 = true
          ·
           subst c141
           have H1 : (some false) = some r := by rw [if_pos rfl] at H; exact H
           clear H
           have H := H1
           clear H1
           obtain rfl := Option.some.inj H
           exact absurd HT.out (by decide)
          ·
           replace c141 := Bool.eq_false_iff.mpr c141
           subst c141
           have H1 : ((laws_markArray.f kj101 t378 t381 1).bind fun bt408 => ((laws_heldArray.f kj101 bt408.2.1 bt408.2.2 1).bind fun t411 => (if t411 < 0 then (some false) else (if t411 = bt408.1 then ((laws_toArray.f kj101 l0_0 l0_1).bind fun bt412 => ((laws_toArray.f kj101 l1_0 l1_1).bind fun bt418 => ((impl_Join.f kj101 bt412.1 bt412.2 bt418.1 bt418.2).bind fun bt424 => ((laws_eqArray.f kj101 bt424.1 bt424.2.1 t356 t359).bind fun t432 => (if t432 = true then (laws_FnExactJoin.j2 kj101 bt408.1 (bt424.2.2 != t362) bt408.2.1 bt408.2.2) else (laws_FnExactJoin.j2 kj101 bt408.1 true bt408.2.1 bt408.2.2)))))) else (some false))))) = some r := by rw [if_neg (show ¬ (false = true) by decide)] at H; exact H
           clear H
           have H := H1
           clear H1
           replace H := Option.bind_eq_some_iff.mp H
           obtain ⟨⟨t408, t409, t410⟩, A1420, H⟩ := H
           replace H : ((laws_heldArray.f kj101 t409 t410 1).bind fun t411 => (if t411 < 0 then (some false) else (if t411 = t408 then ((laws_toArray.f kj101 l0_0 l0_1).bind fun bt412 => ((laws_toArray.f kj101 l1_0 l1_1).bind fun bt418 => ((impl_Join.f kj101 bt412.1 bt412.2 bt418.1 bt418.2).bind fun bt424 => ((laws_eqArray.f kj101 bt424.1 bt424.2.1 t356 t359).bind fun t432 => (if t432 = true then (laws_FnExactJoin.j2 kj101 t408 (bt424.2.2 != t362) t409 t410) else (laws_FnExactJoin.j2 kj101 t408 true t409 t410)))))) else (some false)))) = some r := H
           have A142 := Aside0.mk A1420
           clear A1420
           replace H := Option.bind_eq_some_iff.mp H
           obtain ⟨t411, A1430, H⟩ := H
           replace H : (if t411 < 0 then (some false) else (if t411 = t408 then ((laws_toArray.f kj101 l0_0 l0_1).bind fun bt412 => ((laws_toArray.f kj101 l1_0 l1_1).bind fun bt418 => ((impl_Join.f kj101 bt412.1 bt412.2 bt418.1 bt418.2).bind fun bt424 => ((laws_eqArray.f kj101 bt424.1 bt424.2.1 t356 t359).bind fun t432 => (if t432 = true then (laws_FnExactJoin.j2 kj101 t408 (bt424.2.2 != t362) t409 t410) else (laws_FnExactJoin.j2 kj101 t408 true t409 t410)))))) else (some false))) = some r := H
           have A143 := Aside0.mk A1430
           clear A1430
           by_cases c144 : t411 < 0
           ·
            rw [if_pos c144] at H
            have c144b0 : decide (t411 < 0) = true := decide_eq_true c144
            clear c144
            obtain rfl := Option.some.inj H
            exact absurd HT.out (by decide)
           ·
            rw [if_neg c144] at H
            have c144b0 : decide (t411 < 0) = false := decide_eq_false c144
            clear c144
            by_cases c145 : t411 = t408
            ·
             rw [if_pos c145] at H
             have c145b0 : (t411 == t408) = true := beq_iff_eq.mpr c145
             have c145b1 : (t411 != t408) = false := bne_eq_false_iff_eq.mpr c145
             clear c145
             replace H := Option.bind_eq_some_iff.mp H
             obtain ⟨⟨t412, t415⟩, A1460, H⟩ := H
             replace H : ((laws_toArray.f kj101 l1_0 l1_1).bind fun bt418 => ((impl_Join.f kj101 t412 t415 bt418.1 bt418.2).bind fun bt424 => ((laws_eqArray.f kj101 bt424.1 bt424.2.1 t356 t359).bind fun t432 => (if t432 = true then (laws_FnExactJoin.j2 kj101 t408 (bt424.2.2 != t362) t409 t410) else (laws_FnExactJoin.j2 kj101 t408 true t409 t410))))) = some r := H
             have A146 := Aside0.mk A1460
             clear A1460
             replace H := Option.bind_eq_some_iff.mp H
             obtain ⟨⟨t418, t421⟩, A1470, H⟩ := H
             replace H : ((impl_Join.f kj101 t412 t415 t418 t421).bind fun bt424 => ((laws_eqArray.f kj101 bt424.1 bt424.2.1 t356 t359).bind fun t432 => (if t432 = true then (laws_FnExactJoin.j2 kj101 t408 (bt424.2.2 != t362) t409 t410) else (laws_FnExactJoin.j2 kj101 t408 true t409 t410)))) = some r := H
             have A147 := Aside0.mk A1470
             clear A1470
             replace H := Option.bind_eq_some_iff.mp H
             obtain ⟨⟨t424, t427, t430⟩, A1480, H⟩ := H
             replace H : ((laws_eqArray.f kj101 t424 t427 t356 t359).bind fun t432 => (if t432 = true then (laws_FnExactJoin.j2 kj101 t408 (t430 != t362) t409 t410) else (laws_FnExactJoin.j2 kj101 t408 true t409 t410))) = some r := H
             have A148 := Aside0.mk A1480
             clear A1480
             have HC149 := Aside0.mk H
             clear H
             have hnb150 := NB385_340.out
             have hnc150 := NB340_385.out
             have hnb151 := NB385_341.out
             have hnc151 := NB341_385.out
             have hnb152 := NB385_363.out
             have hnc152 := NB363_385.out
             have hnb153 := NB385_370.out
             have hnc153 := NB370_385.out
             have hnb154 := NB385_377.out
             have hnc154 := NB377_385.out
             have hcz155_0 : wc.cell? ⟨gb385, 0, none⟩ = some (.slice Ao71 t378.length co71) := (blk_cell BK385.out 0).trans rfl
             have hcz155_1 : wc.cell? ⟨gb385, 1, none⟩ = some (.slice Ao78 t381.length co78) := (blk_cell BK385.out 1).trans rfl
             have hfz155_0 := blk_frozen BK385.out 0
             have hfz155_1 := blk_frozen BK385.out 1
             try go_wp2_with (first | ((with_reducible refine gate_callee (f := 20) rfl ?_); refine goesL_ (some 85) rfl rfl Try.func20 (by kernel_rfl) rfl #[.agg #[.slice Ao71 t378.length co71, .slice Ao78 t381.length co78], .int .i64 1] rfl lU ?_; (with_reducible refine (laws_markArray.calls kj101 (fun k_ => some k_ = (.slice Ao71 t378.length co71 : Value).ownBlock) (.slice Ao71 t378.length co71) t378 (fun k_ => some k_ = (.slice Ao78 t381.length co78 : Value).ownBlock) (.slice Ao78 t381.length co78) t381 1 t408 t409 t410 w _ ?side1 ?side2 ?side3 ?side4 ?side5 A142.out).mono ?_); (case side1 => exact bS6 HB.out GE340.out GE341.out GE363.out GE370.out GE377.out GE385.out); (case side2 => exact Kd.R_tight rfl HO_386000.out); (case side3 => exact fun k_ e_ => (HO_386000.out.1 k_ e_.symm).2.2.2.2); (case side4 => exact Kd.R_tight rfl HO_386001.out); (case side5 => exact fun k_ e_ => (HO_386001.out.1 k_ e_.symm).2.2.2.2); rintro e w156 ⟨rfl, hy0, hy1, hb, hkp⟩; refine ⟨_, rfl, ?_⟩; replace HO_364000 := Aside0.mk (Kd.V_mono (ok' := fun k_ => some k_ ≠ (.slice Ao51 t402.length co51 : Value).ownBlock ∧ some k_ ≠ (.slice Ao56 t403.length co56 : Value).ownBlock ∧ some k_ ≠ (.slice Ao61 t405.length co61 : Value).ownBlock ∧ some k_ ≠ (.slice Ao67 t406.length co67 : Value).ownBlock ∧ some k_ ≠ (.slice Ao71 t378.length co71 : Value).ownBlock ∧ some k_ ≠ (.slice Ao78 t381.length co78 : Value).ownBlock ∧ k_ ≠ gb340 ∧ k_ ≠ gb341 ∧ k_ ≠ gb363 ∧ k_ ≠ gb370 ∧ k_ ≠ gb377 ∧ k_ ≠ gb385) (Kd.V_keptB (HO_364000.out) hkp (fun k_ hk_ hs_ => Or.elim hs_ (fun e_ => (hk_.2.2.2.2.1) e_) (fun e_ => (hk_.2.2.2.2.2.1) e_))) (fun k_ hk_ => ⟨hk_.1.1, hk_.1.2.1, hk_.1.2.2.1, hk_.1.2.2.2.1, hk_.1.2.2.2.2.1, hk_.1.2.2.2.2.2.1, hk_.1.2.2.2.2.2.2.1, hk_.1.2.2.2.2.2.2.2.1, hk_.1.2.2.2.2.2.2.2.2.1, hk_.1.2.2.2.2.2.2.2.2.2.1, hk_.1.2.2.2.2.2.2.2.2.2.2.1, hk_.1.2.2.2.2.2.2.2.2.2.2.2⟩)); replace HO_364001 := Aside0.mk (Kd.V_mono (ok' := fun k_ => some k_ ≠ (.slice Ao51 t402.length co51 : Value).ownBlock ∧ some k_ ≠ (.slice Ao56 t403.length co56 : Value).ownBlock ∧ some k_ ≠ (.slice Ao61 t405.length co61 : Value).ownBlock ∧ some k_ ≠ (.slice Ao67 t406.length co67 : Value).ownBlock ∧ some k_ ≠ (.slice Ao71 t378.length co71 : Value).ownBlock ∧ some k_ ≠ (.slice Ao78 t381.length co78 : Value).ownBlock ∧ k_ ≠ gb340 ∧ k_ ≠ gb341 ∧ k_ ≠ gb363 ∧ k_ ≠ gb370 ∧ k_ ≠ gb377 ∧ k_ ≠ gb385) (Kd.V_keptB (HO_364001.out) hkp (fun k_ hk_ hs_ => Or.elim hs_ (fun e_ => (hk_.2.2.2.2.1) e_) (fun e_ => (hk_.2.2.2.2.2.1) e_))) (fun k_ hk_ => ⟨hk_.1.1, hk_.1.2.1, hk_.1.2.2.1, hk_.1.2.2.2.1, hk_.1.2.2.2.2.1, hk_.1.2.2.2.2.2.1, hk_.1.2.2.2.2.2.2.1, hk_.1.2.2.2.2.2.2.2.1, hk_.1.2.2.2.2.2.2.2.2.1, hk_.1.2.2.2.2.2.2.2.2.2.1, hk_.1.2.2.2.2.2.2.2.2.2.2.1, hk_.1.2.2.2.2.2.2.2.2.2.2.2⟩)); replace HO_371000 := Aside0.mk (Kd.R_mono (ok' := fun k_ => some k_ ≠ (.slice Ao56 t403.length co56 : Value).ownBlock ∧ some k_ ≠ (.slice Ao61 t405.length co61 : Value).ownBlock ∧ some k_ ≠ (.slice Ao67 t406.length co67 : Value).ownBlock ∧ some k_ ≠ (.slice Ao71 t378.length co71 : Value).ownBlock ∧ some k_ ≠ (.slice Ao78 t381.length co78 : Value).ownBlock) (Kd.R_keptB (HO_371000.out) hkp (fun k_ hk_ hs_ => Or.elim hs_ (fun e_ => (hk_.2.2.2.1) e_) (fun e_ => (hk_.2.2.2.2) e_))) (fun k_ hk_ => ⟨hk_.1.1, hk_.1.2.1, hk_.1.2.2.1, hk_.1.2.2.2.1, hk_.1.2.2.2.2⟩)); replace HO_371001 := Aside0.mk (Kd.R_mono (ok' := fun k_ => some k_ ≠ (.slice Ao51 t402.length co51 : Value).ownBlock ∧ some k_ ≠ (.slice Ao61 t405.length co61 : Value).ownBlock ∧ some k_ ≠ (.slice Ao67 t406.length co67 : Value).ownBlock ∧ some k_ ≠ (.slice Ao71 t378.length co71 : Value).ownBlock ∧ some k_ ≠ (.slice Ao78 t381.length co78 : Value).ownBlock) (Kd.R_keptB (HO_371001.out) hkp (fun k_ hk_ hs_ => Or.elim hs_ (fun e_ => (hk_.2.2.2.1) e_) (fun e_ => (hk_.2.2.2.2) e_))) (fun k_ hk_ => ⟨hk_.1.1, hk_.1.2.1, hk_.1.2.2.1, hk_.1.2.2.2.1, hk_.1.2.2.2.2⟩)); replace HO_378000 := Aside0.mk (Kd.R_mono (ok' := fun k_ => some k_ ≠ (.slice Ao51 t402.length co51 : Value).ownBlock ∧ some k_ ≠ (.slice Ao56 t403.length co56 : Value).ownBlock ∧ some k_ ≠ (.slice Ao67 t406.length co67 : Value).ownBlock ∧ some k_ ≠ (.slice Ao71 t378.length co71 : Value).ownBlock ∧ some k_ ≠ (.slice Ao78 t381.length co78 : Value).ownBlock) (Kd.R_keptB (HO_378000.out) hkp (fun k_ hk_ hs_ => Or.elim hs_ (fun e_ => (hk_.2.2.2.1) e_) (fun e_ => (hk_.2.2.2.2) e_))) (fun k_ hk_ => ⟨hk_.1.1, hk_.1.2.1, hk_.1.2.2.1, hk_.1.2.2.2.1, hk_.1.2.2.2.2⟩)); replace HO_378001 := Aside0.mk (Kd.R_mono (ok' := fun k_ => some k_ ≠ (.slice Ao51 t402.length co51 : Value).ownBlock ∧ some k_ ≠ (.slice Ao56 t403.length co56 : Value).ownBlock ∧ some k_ ≠ (.slice Ao61 t405.length co61 : Value).ownBlock ∧ some k_ ≠ (.slice Ao71 t378.length co71 : Value).ownBlock ∧ some k_ ≠ (.slice Ao78 t381.length co78 : Value).ownBlock) (Kd.R_keptB (HO_378001.out) hkp (fun k_ hk_ hs_ => Or.elim hs_ (fun e_ => (hk_.2.2.2.1) e_) (fun e_ => (hk_.2.2.2.2) e_))) (fun k_ hk_ => ⟨hk_.1.1, hk_.1.2.1, hk_.1.2.2.1, hk_.1.2.2.2.1, hk_.1.2.2.2.2⟩)); replace BK340 := Aside0.mk (blk_kept (kU BK340.out) hkp (fun hs_ => Or.elim hs_ (fun e_ => (fun e_ => (Kd.R_ne HO_386000.out BK340.out (by decide)) e_) e_) (fun e_ => (fun e_ => (Kd.R_ne HO_386001.out BK340.out (by decide)) e_) e_))); replace BK341 := Aside0.mk (blk_kept (kU BK341.out) hkp (fun hs_ => Or.elim hs_ (fun e_ => (fun e_ => (Kd.R_ne HO_386000.out BK341.out (by decide)) e_) e_) (fun e_ => (fun e_ => (Kd.R_ne HO_386001.out BK341.out (by decide)) e_) e_))); replace BK363 := Aside0.mk (blk_kept (kU BK363.out) hkp (fun hs_ => Or.elim hs_ (fun e_ => (fun e_ => (Kd.R_ne HO_386000.out BK363.out (by decide)) e_) e_) (fun e_ => (fun e_ => (Kd.R_ne HO_386001.out BK363.out (by decide)) e_) e_))); replace BK370 := Aside0.mk (blk_kept (kU BK370.out) hkp (fun hs_ => Or.elim hs_ (fun e_ => (fun e_ => (Kd.R_ne HO_386000.out BK370.out (by decide)) e_) e_) (fun e_ => (fun e_ => (Kd.R_ne HO_386001.out BK370.out (by decide)) e_) e_))); replace BK377 := Aside0.mk (blk_kept (kU BK377.out) hkp (fun hs_ => Or.elim hs_ (fun e_ => (fun e_ => (Kd.R_ne HO_386000.out BK377.out (by decide)) e_) e_) (fun e_ => (fun e_ => (Kd.R_ne HO_386001.out BK377.out (by decide)) e_) e_))); replace BK385 := Aside0.mk (blk_kept (kU BK385.out) hkp (fun hs_ => Or.elim hs_ (fun e_ => (fun e_ => (Kd.R_ne HO_386000.out BK385.out (by decide)) e_) e_) (fun e_ => (fun e_ => (Kd.R_ne HO_386001.out BK385.out (by decide)) e_) e_))); replace HO_386000 := Aside0.mk (Kd.R_reok rfl hy0 (fun k_ e_ => HO_386000.out.1 k_ e_)); replace HO_386001 := Aside0.mk (Kd.R_reok rfl hy1 (fun k_ e_ => HO_386001.out.1 k_ e_)); replace HB := Aside0.mk (hb); (try clear hb); (try clear hkp); (try clear hy0); (try clear hy1); have hcz157_0 : w156.cell? ⟨gb385, 0, none⟩ = some (.slice Ao71 t378.length co71) := (blk_cell BK385.out 0).trans rfl; have hcz157_1 : w156.cell? ⟨gb385, 1, none⟩ = some (.slice Ao78 t381.length co78) := (blk_cell BK385.out 1).trans rfl; have hfz157_0 := blk_frozen BK385.out 0; have hfz157_1 := blk_frozen BK385.out 1) | ((with_reducible refine gate_callee (f := 21) rfl ?_); refine goesL_ (some 88) rfl rfl Try.func21 (by kernel_rfl) rfl #[.agg #[.slice Ao71 t409.length co71, .slice Ao78 t410.length co78], .int .i64 1] rfl (by (try simp only [List.map_toArray, List.map_cons, List.map_nil]); first | done | (rw [show t409.length = t378.length from (Kd.R_reads' HO_386000.out).1.symm, show t410.length = t381.length from (Kd.R_reads' HO_386001.out).1.symm] <;> rfl) | rfl | (simp only [List.length_drop, List.length_take]; rfl)) ?_; (with_reducible refine (laws_heldArray.calls kj101 _ _ t409 _ _ t410 1 t411 _ ?side1 ?side2 ?side3 ?side4 A143.out).mono ?_); (case side1 => exact cU (Kd.R_reads' HO_386000.out).2.2); (case side2 => rw [show t409.length = t378.length from (Kd.R_reads' HO_386000.out).1.symm]; exact (Kd.R_reads' HO_386000.out).2.1); (case side3 => exact cU (Kd.R_reads' HO_386001.out).2.2); (case side4 => rw [show t410.length = t381.length from (Kd.R_reads' HO_386001.out).1.symm]; exact (Kd.R_reads' HO_386001.out).2.1); rintro e w158 ⟨rfl, hb⟩; refine ⟨_, rfl, ?_⟩; replace HO_364000 := Aside0.mk (Kd.V_below (VU HO_364000.out) hb); replace HO_364001 := Aside0.mk (Kd.V_below (VU HO_364001.out) hb); replace HO_371000 := Aside0.mk (Kd.R_below (RU HO_371000.out) hb); replace HO_371001 := Aside0.mk (Kd.R_below (RU HO_371001.out) hb); replace HO_378000 := Aside0.mk (Kd.R_below (RU HO_378000.out) hb); replace HO_378001 := Aside0.mk (Kd.R_below (RU HO_378001.out) hb); replace HO_386000 := Aside0.mk (Kd.R_below (RU HO_386000.out) hb); replace HO_386001 := Aside0.mk (Kd.R_below (RU HO_386001.out) hb); replace BK340 := Aside0.mk (kB BK340.out hb); replace BK341 := Aside0.mk (kB BK341.out hb); replace BK363 := Aside0.mk (kB BK363.out hb); replace BK370 := Aside0.mk (kB BK370.out hb); replace BK377 := Aside0.mk (kB BK377.out hb); replace BK385 := Aside0.mk (kB BK385.out hb); replace HB := Aside0.mk (below_step (bS6 HB.out GE340.out GE341.out GE363.out GE370.out GE377.out GE385.out) hb); (try clear hb); (try clear hb2); (try clear hk); (try clear hi)))
             replace HO_364000 := Aside0.mk (Kd.V_drew HO_364000.out)
             replace HO_364001 := Aside0.mk (Kd.V_drew HO_364001.out)
             replace HO_371000 := Aside0.mk (Kd.R_drew HO_371000.out)
             replace HO_371001 := Aside0.mk (Kd.R_drew HO_371001.out)
             replace HO_378000 := Aside0.mk (Kd.R_drew HO_378000.out)
             replace HO_378001 := Aside0.mk (Kd.R_drew HO_378001.out)
             replace HO_386000 := Aside0.mk (Kd.R_drew HO_386000.out)
             replace HO_386001 := Aside0.mk (Kd.R_drew HO_386001.out)
             replace BK340 := Aside0.mk (blk_drew BK340.out)
             replace BK341 := Aside0.mk (blk_drew BK341.out)
             replace BK363 := Aside0.mk (blk_drew BK363.out)
             replace BK370 := Aside0.mk (blk_drew BK370.out)
             replace BK377 := Aside0.mk (blk_drew BK377.out)
             replace BK385 := Aside0.mk (blk_drew BK385.out)
             replace HB := Aside0.mk (below_drew1 HB.out)
             refine start_ (n := 11) (S := fun w' => w'.cell? ⟨gb340, 0, none⟩ = some (.slice A0_0 l0_0.length c0_0) ∧ w'.cell? ⟨gb340, 1, none⟩ = some (.slice A0_1 l0_1.length c0_1) ∧ w'.cell? ⟨gb341, 0, none⟩ = some (.slice A1_0 l1_0.length c1_0) ∧ w'.cell? ⟨gb341, 1, none⟩ = some (.slice A1_1 l1_1.length c1_1)) (ds := []) #[false, false, false, false, false, false, false, false, false, false, false] (by kernel_rfl) rfl rfl ⟨(blk_cell BK340.out 0).trans rfl, (blk_cell BK340.out 1).trans rfl, (blk_cell BK341.out 0).trans rfl, (blk_cell BK341.out 1).trans rfl⟩ (fun hHeld => ?_); refine with_tabW laws_FnExactJoin.tab31 laws_FnExactJoin.bits31 (fun HT_ HW_ => ?_)
             generalize w158.drew = w159 at HO_364000 HO_364001 HO_371000 HO_371001 HO_378000 HO_378001 HO_386000 HO_386001 BK340 BK341 BK363 BK370 BK377 BK385 HB hHeld ⊢
             refine take_ (i := 0) (N := some 95) (v := ?_) (a' := ?_) #[true, false, false, false, false, false, false, false, false, false, false] rfl rfl (take_ofW HT_.out HW_.out (by kernel_rfl)) (fun _ _ _ h => h) (Or.inl ⟨by rfl, ?_⟩) hHeld ?_ ?_
             rotate_left
             ·
              rintro w' ⟨s0, s1, s2, s3⟩
              go_simp
              with_reducible rfl
             rotate_left
             ·
              simp only [Act.put, List.setIfInBounds_toArray, List.set_cons_zero, List.set_cons_succ, i64_w, i32_w]
              rfl
             refine take_ (i := 2) (N := some 97) (v := ?_) (a' := ?_) #[true, false, true, false, false, false, false, false, false, false, false] rfl rfl (take_ofW HT_.out HW_.out (by kernel_rfl)) (fun _ _ _ h => h) (Or.inl ⟨by rfl, ?_⟩) hHeld ?_ ?_
             rotate_left
             ·
              rintro w' ⟨s0, s1, s2, s3⟩
              go_simp
              with_reducible rfl
             rotate_left
             ·
              simp only [Act.put, List.setIfInBounds_toArray, List.set_cons_zero, List.set_cons_succ, i64_w, i32_w]
              rfl
             rename_i h1_52 h1_75 h1_76 h1_78 h1_92 h1_109 h1_163 h1_166 h1_169 h1_172 h1_175 h1_178 h1_181 h1_208 h1_209 h1_210 h1_211 h1_212 h1_213 h1_214 h1_215 h1_216 h1_217 h1_218 h1_219 h1_220 h1_221 h1_222 h1_223 h1_224 h1_225 h1_226 h1_227 h1_228 h1_229 h1_230 h1_231 h1_232 h1_233 h1_234 h1_235 h1_236 h1_237 h1_238 h1_239 h1_240 h1_241 h1_242 h1_243 h1_244 h1_245 h1_246 h1_247 h1_248 h1_249 h1_250 h1_251 h1_252 h1_253 h1_254 h1_255 h1_256 h1_257 h1_258 h1_259 h1_260 h1_261 h1_262 h1_263 h1_264 h1_265 h1_266 h1_267 h1_268 h1_269 h1_270 h1_271 h1_272 h1_274 h1_275 h1_276 h1_277 h1_278 h1_279 h1_280 h1_281 h1_282 h1_283 h1_284 h1_285 h1_286 h1_287 h1_288 h1_289 h1_290 h1_291 h1_292 h1_293 h1_294 h1_295 h1_296 h1_297 h1_298 h1_299 h1_300 h1_301 h1_302 h1_303 h1_304 h1_305 h1_306 h1_307 h1_308 h1_309 h1_329 h1_335 h1_337 h1_339 h1_345 h1_347 h1_368 h1_369 h1_370 h1_371 h1_372 h1_373 h1_374 h1_375 h1_376 h1_377 h1_378 h1_379 h1_380 h1_381 h1_386 h1_535 h1_536
             revert k A0_0 c0_0 l0_0 A0_1 c0_1 l0_1 A1_0 c1_0 l1_0 A1_1 c1_1 l1_1 r w HT hu24 hu26 HR0_0 HC0_0 HR0_1 HC0_1 HR1_0 HC1_0 HR1_1 HC1_1 t342 A3 c4b0 t343 A10 c11b0 t344 t347 A19 t350 t353 A20 t356 t359 t362 A21 t364 t367 A22 t371 t374 A23 t378 t381 t384 A24 h1_52 gb340 w26 GW340 GE340 gb341 w27 GW341 GE341 NB340_341 NB341_340 hnb28 hnc28 hcz29_0 hcz29_1 hfz29_0 hfz29_1 w30 hcz31_0 hcz31_1 hfz31_0 hfz31_1 w32 h1_75 h1_76 w33 h1_78 v345 v348 v351 v354 gb363 w42 hS_ GW363 GE363 NB340_363 NB363_340 NB341_363 NB363_341 h1_92 Ao43 co43 Ao45 co45 hs44 hfs44 hns44_0 hns44_1 hms44_0 hms44_1 hs46 hfs46 hns46_0 hns46_1 hms46_0 hms46_1 h1_109 hnb47 hnc47 w49 gb370 w50 GW370 GE370 NB340_370 NB370_340 NB341_370 NB370_341 NB363_370 NB370_363 Ao51 co51 hnb52 hnc52 hnb53 hnc53 hnb54 hnc54 Ao56 co56 hnb57 hnc57 w59 gb377 w60 GW377 GE377 NB340_377 NB377_340 NB341_377 NB377_341 NB363_377 NB377_363 NB370_377 NB377_370 Ao61 co61 hnb62 hnc62 hnb63 hnc63 hnb64 hnc64 hnb65 hnc65 Ao67 co67 w69 gb385 w70 h1_163 GW385 GE385 h1_166 NB340_385 NB385_340 h1_169 NB341_385 NB385_341 h1_172 NB363_385 NB385_363 h1_175 NB370_385 NB385_370 h1_178 NB377_385 NB385_377 h1_181 Ao71 co71 hnb72 hnc72 hnb73 hnc73 hnb74 hnc74 hnb75 hnc75 hnb76 hnc76 Ao78 co78 HO346 HO349 HO352 HO355 HO358 HO361 HO366 HO369 HO373 HO376 HO380 HO383 h1_208 h1_209 h1_210 h1_211 h1_212 h1_213 h1_214 h1_215 h1_216 h1_217 h1_218 h1_219 h1_220 h1_221 h1_222 h1_223 h1_224 h1_225 h1_226 h1_227 h1_228 h1_229 h1_230 h1_231 h1_232 h1_233 h1_234 h1_235 h1_236 h1_237 h1_238 h1_239 h1_240 h1_241 h1_242 h1_243 h1_244 h1_245 h1_246 h1_247 h1_248 h1_249 h1_250 h1_251 h1_252 h1_253 h1_254 h1_255 h1_256 h1_257 h1_258 h1_259 h1_260 h1_261 h1_262 h1_263 h1_264 h1_265 h1_266 h1_267 h1_268 h1_269 h1_270 h1_271 h1_272 u82 h1_274 h1_275 h1_276 h1_277 h1_278 h1_279 h1_280 h1_281 h1_282 h1_283 h1_284 h1_285 h1_286 h1_287 h1_288 h1_289 h1_290 h1_291 h1_292 h1_293 h1_294 h1_295 h1_296 h1_297 h1_298 h1_299 h1_300 h1_301 h1_302 h1_303 h1_304 h1_305 h1_306 h1_307 h1_308 h1_309 kj24 HJ24 t387 t390 A94 A95 t394 t397 A97 A98 t401 t402 t403 A100 t404 t405 t406 A101 w103 h1_329 w104 Ao105 co105 Ao106 co106 h1_335 w107 h1_337 w108 h1_339 w109 Ao110 co110 Ao111 co111 h1_345 w112 h1_347 hnb113 hnc113 hnb114 hnc114 hnb115 hnc115 hnb116 hnc116 hnb117 hnc117 w119 hnb120 hnc120 hnb121 hnc121 hnb122 hnc122 hnb123 hnc123 w125 h1_368 h1_369 h1_370 h1_371 h1_372 h1_373 h1_374 h1_375 h1_376 h1_377 h1_378 h1_379 h1_380 h1_381 HO389 HO392 HO396 HO399 h1_386 wc u17 u18 u19 u20 u21 u22 u23 u24 u25 u26 u27 u28 u29 u30 u31 u32 u33 u34 u35 u36 u37 u38 u39 u40 u41 u42 u43 u44 u45 u46 u47 u48 u49 u50 u51 u52 u53 u54 u55 u56 u57 u58 u59 u60 u61 u62 u63 u64 u65 u66 u67 u68 u69 u70 u71 u72 u73 u74 u75 u76 u77 u78 u79 u80 u81 u83 u84 u85 u86 u87 u88 u89 u90 u91 u92 u93 u94 u95 u96 u97 u98 u99 u100 u101 u102 u103 u104 u105 u106 u107 u108 u109 u110 u111 u112 u113 u114 u115 u116 u117 u118 hl371000_101 hl371001_101 hl378000_101 hl378001_101 kj101 HJ101 t408 t409 t410 A142 t411 A143 c144b0 c145b0 c145b1 t412 t415 A146 t418 t421 A147 t424 t427 t430 A148 HC149 hnb150 hnc150 hnb151 hnc151 hnb152 hnc152 hnb153 hnc153 hnb154 hnc154 hcz155_0 hcz155_1 hfz155_0 hfz155_1 w156 hcz157_0 hcz157_1 hfz157_0 hfz157_1 w158 h1_535 h1_536 HT_ HW_ w159 HO_364000 HO_364001 HO_371000 HO_371001 HO_378000 HO_378001 HO_386000 HO_386001 BK340 BK341 BK363 BK370 BK377 BK385 HB hHeld
             exact hRest_ trivial
            ·
             rw [if_neg c145] at H
             have c145b0 : (t411 == t408) = false := beq_eq_false_iff_ne.mpr c145
             have c145b1 : (t411 != t408) = true := bne_iff_ne.mpr c145
             obtain rfl := Option.some.inj H
             exact absurd HT.out (by decide)
       ·
        replace c99 := Bool.eq_false_iff.mpr c99
        subst c99
        have H1 : (some false) = some r := by rw [if_neg (show ¬ (false = true) by decide)] at H; exact H
        clear H
        have H := H1
        clear H1
        obtain rfl := Option.some.inj H
        exact absurd HT.out (by decide)
      ·
       replace c96 := Bool.eq_false_iff.mpr c96
       subst c96
       have H1 : (some false) = some r := by rw [if_neg (show ¬ (false = true) by decide)] at H; exact H
       clear H
       have H := H1
       clear H1
       obtain rfl := Option.some.inj H
       exact absurd HT.out (by decide)⟩
end Go.Proofs.Ytcnbajdnlkcjjaa.PFnExactJoin
