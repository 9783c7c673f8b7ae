/- The walk of what a law reaches, for the law's row: written by a program of this session; it has no condition of its own. -/
import Derived.Test.YtcnbajdnlkcjjaaPFnExactTurnx0
import Derived.Test.YtcnbajdnlkcjjaaQ
import Derived.Test.YtcnbajdnlkcjjaaPFnExactTurnx1
import Derived.Test.YtcnbajdnlkcjjaaPFnExactTurnx4
import Derived.Test.YtcnbajdnlkcjjaaPFnExactTurnx6
namespace Go.Proofs.Ytcnbajdnlkcjjaa.PFnExactTurn
open Go.RowKit Go.Proofs.YtcnbajdnlkcjjaaW.PrintWords Go.Proofs.YtcnbajdnlkcjjaaW.PrintLast Go.Proofs.YtcnbajdnlkcjjaaW.PrintMore Go.Proofs.YtcnbajdnlkcjjaaQ
attribute [local go_sem] max2_int min2_int max_two min_two max_three min_three max_four min_four   -- for this text's walks alone
set_option linter.unusedVariables false
set_option linter.unusedSimpArgs false

/-! ### laws_FnExactTurn: function 5 -/
mutual
def laws_FnExactTurn.j0 : Nat → Int → Int → Bool → List Int → List Int → List Int → List Int → List Int → List Int → List Int → List Int → Option (Bool)
 | 0, _, _, _, _, _, _, _, _, _, _, _ => none
 | k + 1, x5, x8, x40, x290000, x290001, x305000, x305001, x312000, x312001, x320000, x320001 => if x40 = true then (some false) else ((laws_toArray.f k x290000 x290001).bind fun bt321 => ((laws_eqArray.f k x312000 x312001 bt321.1 bt321.2).bind fun t327 => (if t327 = true then ((laws_markArray.f k x312000 x312001 1).bind fun bt328 => (if bt328.1 < 0 then (laws_FnExactTurn.j1 k x5 true x290000 x290001 x305000 x305001 x320000 x320001) else ((laws_eqArray.f k x320000 x320001 x305000 x305001).bind fun t331 => (if t331 = true then (laws_FnExactTurn.j1 k x5 (x8 != x5) x290000 x290001 x305000 x305001 x320000 x320001) else (laws_FnExactTurn.j1 k x5 true x290000 x290001 x305000 x305001 x320000 x320001))))) else (some false))))
def laws_FnExactTurn.j1 : Nat → Int → Bool → List Int → List Int → List Int → List Int → List Int → List Int → Option (Bool)
 | 0, _, _, _, _, _, _, _, _ => none
 | k + 1, x5, x61, x290000, x290001, x305000, x305001, x320000, x320001 => if x61 = true then (some false) else ((laws_markArray.f k x320000 x320001 1).bind fun bt332 => ((laws_heldArray.f k bt332.2.1 bt332.2.2 1).bind fun t335 => (if t335 < 0 then (some false) else (if t335 = bt332.1 then ((laws_toArray.f k x290000 x290001).bind fun bt336 => ((impl_Turn.f k bt336.1 bt336.2).bind fun bt342 => ((laws_eqArray.f k bt342.1 bt342.2.1 x305000 x305001).bind fun t350 => (if t350 = true then (laws_FnExactTurn.j2 k bt332.1 (bt342.2.2 != x5) bt332.2.1 bt332.2.2) else (laws_FnExactTurn.j2 k bt332.1 true bt332.2.1 bt332.2.2))))) else (some false)))))
def laws_FnExactTurn.j2 : Nat → Int → Bool → List Int → List Int → Option (Bool)
 | 0, _, _, _, _ => none
 | k + 1, x10, x87, x320000, x320001 => if x87 = true then (some false) else ((laws_heldArray.f k x320000 x320001 1).bind fun t351 => (if t351 < 0 then (some false) else (if t351 = x10 then (some true) else (some false))))
end
def laws_FnExactTurn.f (k : Nat) (l0_0 : List Int) (l0_1 : List Int) : Option (Bool) := (laws_szArray.f l0_0 l0_1 1048576).bind fun t290 => (if t290 < 0 then (some true) else ((laws_toArray.f k l0_0 l0_1).bind fun bt291 => ((spec_Turn.f k bt291.1 bt291.2).bind fun bt297 => ((laws_toArray.f k l0_0 l0_1).bind fun bt305 => ((impl_Turn.f k bt305.1 bt305.2).bind fun bt312 => ((laws_eqArray.f k bt312.1 bt312.2.1 bt297.1 bt297.2.1).bind fun t320 => (if t320 = true then (laws_FnExactTurn.j0 k bt297.2.2 bt312.2.2 (bt312.2.2 != bt297.2.2) l0_0 l0_1 bt297.1 bt297.2.1 bt305.1 bt305.2 bt312.1 bt312.2.1) else (laws_FnExactTurn.j0 k bt297.2.2 bt312.2.2 true l0_0 l0_1 bt297.1 bt297.2.1 bt305.1 bt305.2 bt312.1 bt312.2.1))))))))
set_option maxHeartbeats 8000000 in
set_option maxRecDepth 100000 in
theorem laws_FnExactTurn.calls (k : Nat) (A0_0 : Option Addr) (c0_0 : Nat) (l0_0 : List Int) (A0_1 : Option Addr) (c0_1 : Nat) (l0_1 : List Int) (r : Bool) (w : World) (hr0_0 : Kd.C (Kd.int .i64) w A0_0 l0_0.length l0_0) (hc0_0 : l0_0.length ≤ c0_0) (hr0_1 : Kd.C (Kd.int .i64) w A0_1 l0_1.length l0_1) (hc0_1 : l0_1.length ≤ c0_1) (h : laws_FnExactTurn.f k l0_0 l0_1 = some r) (hT : r = true) :
  Calls Try.prog 5 #[.agg #[.slice A0_0 l0_0.length c0_0, .slice A0_1 l0_1.length c0_1]] w fun e w' => e = .returned (.bool r) ∧ Below w.heap.size w w' := by
 have HT := Aside0.mk hT
 clear hT
 have hu24 := Try.underlying24
 have hu26 := Try.underlying26
 have HR0_0 := Aside0.mk hr0_0
 have HC0_0 := Aside0.mk hc0_0
 clear hr0_0 hc0_0
 have HR0_1 := Aside0.mk hr0_1
 have HC0_1 := Aside0.mk hc0_1
 clear hr0_1 hc0_1
 have HB := Aside0.mk (Below.refl w.heap.size w)
 have H : ((laws_szArray.f l0_0 l0_1 1048576).bind fun t290 => (if t290 < 0 then (some true) else ((laws_toArray.f k l0_0 l0_1).bind fun bt291 => ((spec_Turn.f k bt291.1 bt291.2).bind fun bt297 => ((laws_toArray.f k l0_0 l0_1).bind fun bt305 => ((impl_Turn.f k bt305.1 bt305.2).bind fun bt312 => ((laws_eqArray.f k bt312.1 bt312.2.1 bt297.1 bt297.2.1).bind fun t320 => (if t320 = true then (laws_FnExactTurn.j0 k bt297.2.2 bt312.2.2 (bt312.2.2 != bt297.2.2) l0_0 l0_1 bt297.1 bt297.2.1 bt305.1 bt305.2 bt312.1 bt312.2.1) else (laws_FnExactTurn.j0 k bt297.2.2 bt312.2.2 true l0_0 l0_1 bt297.1 bt297.2.1 bt305.1 bt305.2 bt312.1 bt312.2.1))))))))) = some r := h
 clear h
 replace H := Option.bind_eq_some_iff.mp H
 obtain ⟨t290, A20, H⟩ := H
 replace H : (if t290 < 0 then (some true) else ((laws_toArray.f k l0_0 l0_1).bind fun bt291 => ((spec_Turn.f k bt291.1 bt291.2).bind fun bt297 => ((laws_toArray.f k l0_0 l0_1).bind fun bt305 => ((impl_Turn.f k bt305.1 bt305.2).bind fun bt312 => ((laws_eqArray.f k bt312.1 bt312.2.1 bt297.1 bt297.2.1).bind fun t320 => (if t320 = true then (laws_FnExactTurn.j0 k bt297.2.2 bt312.2.2 (bt312.2.2 != bt297.2.2) l0_0 l0_1 bt297.1 bt297.2.1 bt305.1 bt305.2 bt312.1 bt312.2.1) else (laws_FnExactTurn.j0 k bt297.2.2 bt312.2.2 true l0_0 l0_1 bt297.1 bt297.2.1 bt305.1 bt305.2 bt312.1 bt312.2.1)))))))) = some r := H
 have A2 := Aside0.mk A20
 clear A20
 by_cases c3 : t290 < 0
 ·
  rw [if_pos c3] at H
  have c3b0 : decide (t290 < 0) = true := decide_eq_true c3
  clear c3
  obtain rfl := Option.some.inj H
  go_enter Try.func5, Try.ntmps5
  go_wp2_with (first | ((with_reducible refine gate_dst (N := 1) rfl ?_); refine box_event ?hg (N := 1) ?hd (cs := #[.slice A0_0 l0_0.length c0_0, .slice A0_1 l0_1.length c0_1]) (t := 24) ?hr ?_; (case hd => rfl); (case hg => rfl); (case hr => first | (go_simp; done) | (go_simp; rfl)); intro gb289 hg w4 hbox hb; have BK289 := Aside0.mk (hbox); have GW289 := Aside0.mk ((by rw [hg]; exact (below_size (bU HB.out)) : w.heap.size ≤ gb289)); have GE289 := Aside0.mk ((by rw [hg]; exact (below_size (bU HB.out)) : w.heap.size ≤ gb289)); replace HB := Aside0.mk (below_step (bU HB.out) hb); clear hb hbox hg; have hcz5_0 : w4.cell? ⟨gb289, 0, none⟩ = some (.slice A0_0 l0_0.length c0_0) := (blk_cell BK289.out 0).trans rfl; have hcz5_1 : w4.cell? ⟨gb289, 1, none⟩ = some (.slice A0_1 l0_1.length c0_1) := (blk_cell BK289.out 1).trans rfl; have hfz5_0 := blk_frozen BK289.out 0; have hfz5_1 := blk_frozen BK289.out 1) | ((with_reducible refine gate_callee (f := 15) rfl ?_); refine goesL_ (some 16) rfl rfl Try.func15 (by kernel_rfl) rfl #[.agg #[.slice A0_0 l0_0.length c0_0, .slice A0_1 l0_1.length c0_1], .int .i64 1048576] rfl lU ?_; (with_reducible refine (laws_szArray.calls _ _ l0_0 _ _ l0_1 1048576 t290 _ ?side1 ?side2 ?side3 ?side4 A2.out).mono ?_); (case side1 => exact cU (Kd.C_below HR0_0.out HB.out)); (case side2 => exact HC0_0.out); (case side3 => exact cU (Kd.C_below HR0_1.out HB.out)); (case side4 => exact HC0_1.out); rintro e w6 ⟨rfl, hb⟩; refine ⟨_, rfl, ?_⟩; replace BK289 := Aside0.mk (kB BK289.out hb); replace HB := Aside0.mk (below_step (bS1 HB.out GE289.out) hb); (try clear hb); (try clear hb2); (try clear hk); (try clear hi)))
  go_ret
  exact ⟨by first | rfl | (simp [errW_none, errW_some] <;> rfl) | (simp [*, errW_none, errW_some] <;> rfl), by exact bS1 HB.out GE289.out⟩
 ·
  rw [if_neg c3] at H
  have c3b0 : decide (t290 < 0) = false := decide_eq_false c3
  clear c3
  replace H := Option.bind_eq_some_iff.mp H
  obtain ⟨⟨t291, t294⟩, A70, H⟩ := H
  replace H : ((spec_Turn.f k t291 t294).bind fun bt297 => ((laws_toArray.f k l0_0 l0_1).bind fun bt305 => ((impl_Turn.f k bt305.1 bt305.2).bind fun bt312 => ((laws_eqArray.f k bt312.1 bt312.2.1 bt297.1 bt297.2.1).bind fun t320 => (if t320 = true then (laws_FnExactTurn.j0 k bt297.2.2 bt312.2.2 (bt312.2.2 != bt297.2.2) l0_0 l0_1 bt297.1 bt297.2.1 bt305.1 bt305.2 bt312.1 bt312.2.1) else (laws_FnExactTurn.j0 k bt297.2.2 bt312.2.2 true l0_0 l0_1 bt297.1 bt297.2.1 bt305.1 bt305.2 bt312.1 bt312.2.1)))))) = some r := H
  have A7 := Aside0.mk A70
  clear A70
  replace H := Option.bind_eq_some_iff.mp H
  obtain ⟨⟨t297, t300, t303⟩, A80, H⟩ := H
  replace H : ((laws_toArray.f k l0_0 l0_1).bind fun bt305 => ((impl_Turn.f k bt305.1 bt305.2).bind fun bt312 => ((laws_eqArray.f k bt312.1 bt312.2.1 t297 t300).bind fun t320 => (if t320 = true then (laws_FnExactTurn.j0 k t303 bt312.2.2 (bt312.2.2 != t303) l0_0 l0_1 t297 t300 bt305.1 bt305.2 bt312.1 bt312.2.1) else (laws_FnExactTurn.j0 k t303 bt312.2.2 true l0_0 l0_1 t297 t300 bt305.1 bt305.2 bt312.1 bt312.2.1))))) = some r := H
  have A8 := Aside0.mk A80
  clear A80
  replace H := Option.bind_eq_some_iff.mp H
  obtain ⟨⟨t305, t308⟩, A90, H⟩ := H
  replace H : ((impl_Turn.f k t305 t308).bind fun bt312 => ((laws_eqArray.f k bt312.1 bt312.2.1 t297 t300).bind fun t320 => (if t320 = true then (laws_FnExactTurn.j0 k t303 bt312.2.2 (bt312.2.2 != t303) l0_0 l0_1 t297 t300 t305 t308 bt312.1 bt312.2.1) else (laws_FnExactTurn.j0 k t303 bt312.2.2 true l0_0 l0_1 t297 t300 t305 t308 bt312.1 bt312.2.1)))) = some r := H
  have A9 := Aside0.mk A90
  clear A90
  replace H := Option.bind_eq_some_iff.mp H
  obtain ⟨⟨t312, t315, t318⟩, A100, H⟩ := H
  replace H : ((laws_eqArray.f k t312 t315 t297 t300).bind fun t320 => (if t320 = true then (laws_FnExactTurn.j0 k t303 t318 (t318 != t303) l0_0 l0_1 t297 t300 t305 t308 t312 t315) else (laws_FnExactTurn.j0 k t303 t318 true l0_0 l0_1 t297 t300 t305 t308 t312 t315))) = some r := H
  have A10 := Aside0.mk A100
  clear A100
  have HC11 := Aside0.mk H
  clear H
  go_enter Try.func5, Try.ntmps5
  go_upto_region 8 with (first | ((with_reducible refine gate_dst (N := 1) rfl ?_); refine box_event ?hg (N := 1) ?hd (cs := #[.slice A0_0 l0_0.length c0_0, .slice A0_1 l0_1.length c0_1]) (t := 24) ?hr ?_; (case hd => rfl); (case hg => rfl); (case hr => first | (go_simp; done) | (go_simp; rfl)); intro gb289 hg w12 hbox hb; have BK289 := Aside0.mk (hbox); have GW289 := Aside0.mk ((by rw [hg]; exact (below_size (bU HB.out)) : w.heap.size ≤ gb289)); have GE289 := Aside0.mk ((by rw [hg]; exact (below_size (bU HB.out)) : w.heap.size ≤ gb289)); replace HB := Aside0.mk (below_step (bU HB.out) hb); clear hb hbox hg; have hcz13_0 : w12.cell? ⟨gb289, 0, none⟩ = some (.slice A0_0 l0_0.length c0_0) := (blk_cell BK289.out 0).trans rfl; have hcz13_1 : w12.cell? ⟨gb289, 1, none⟩ = some (.slice A0_1 l0_1.length c0_1) := (blk_cell BK289.out 1).trans rfl; have hfz13_0 := blk_frozen BK289.out 0; have hfz13_1 := blk_frozen BK289.out 1) | ((with_reducible refine gate_callee (f := 15) rfl ?_); refine goesL_ (some 16) rfl rfl Try.func15 (by kernel_rfl) rfl #[.agg #[.slice A0_0 l0_0.length c0_0, .slice A0_1 l0_1.length c0_1], .int .i64 1048576] rfl lU ?_; (with_reducible refine (laws_szArray.calls _ _ l0_0 _ _ l0_1 1048576 t290 _ ?side1 ?side2 ?side3 ?side4 A2.out).mono ?_); (case side1 => exact cU (Kd.C_below HR0_0.out HB.out)); (case side2 => exact HC0_0.out); (case side3 => exact cU (Kd.C_below HR0_1.out HB.out)); (case side4 => exact HC0_1.out); rintro e w14 ⟨rfl, hb⟩; refine ⟨_, rfl, ?_⟩; replace BK289 := Aside0.mk (kB BK289.out hb); replace HB := Aside0.mk (below_step (bS1 HB.out GE289.out) hb); (try clear hb); (try clear hb2); (try clear hk); (try clear hi); have hcz15_0 : w14.cell? ⟨gb289, 0, none⟩ = some (.slice A0_0 l0_0.length c0_0) := (blk_cell BK289.out 0).trans rfl; have hcz15_1 : w14.cell? ⟨gb289, 1, none⟩ = some (.slice A0_1 l0_1.length c0_1) := (blk_cell BK289.out 1).trans rfl; have hfz15_0 := blk_frozen BK289.out 0; have hfz15_1 := blk_frozen BK289.out 1) | ((with_reducible refine gate_callee (f := 17) rfl ?_); refine goesL_ (some 21) rfl rfl Try.func17 (by kernel_rfl) rfl #[.agg #[.slice A0_0 l0_0.length c0_0, .slice A0_1 l0_1.length c0_1]] rfl lU ?_; (with_reducible refine (laws_toArray.calls k _ _ l0_0 _ _ l0_1 t291 t294 _ ?side1 ?side2 ?side3 ?side4 A7.out).mono ?_); (case side1 => exact cU (Kd.C_below HR0_0.out HB.out)); (case side2 => exact HC0_0.out); (case side3 => exact cU (Kd.C_below HR0_1.out HB.out)); (case side4 => exact HC0_1.out); rintro e w16 ⟨v292, v295, rfl, ho0, ho1, hb⟩; refine ⟨_, rfl, ?_⟩; have HO293 := Aside0.mk (Kd.R_lower ho0 (below_size (bS1 HB.out GE289.out))); have HO296 := Aside0.mk (Kd.R_lower ho1 (below_size (bS1 HB.out GE289.out))); replace BK289 := Aside0.mk (kB BK289.out hb); replace HB := Aside0.mk (below_step (bS1 HB.out GE289.out) hb); (try clear hb); (try clear hb2); (try clear hk); (try clear hi); (try clear ho0); (try clear ho1); obtain ⟨Ao17, co17, eo17⟩ := Kd.R_slice HO293.out; subst eo17; obtain ⟨Ao18, co18, eo18⟩ := Kd.R_slice HO296.out; subst eo18) | ((with_reducible refine gate_callee (f := 29) rfl ?_); refine goesL_ (some 22) rfl rfl Try.func29 (by kernel_rfl) rfl #[.agg #[.slice Ao17 t291.length co17, .slice Ao18 t294.length co18]] rfl lU ?_; (with_reducible refine (spec_Turn.calls k _ _ t291 _ _ t294 t297 t300 t303 _ ?side1 ?side2 ?side3 ?side4 A8.out).mono ?_); (case side1 => exact cU (Kd.R_reads' HO293.out).2.2); (case side2 => exact (Kd.R_reads' HO293.out).2.1); (case side3 => exact cU (Kd.R_reads' HO296.out).2.2); (case side4 => exact (Kd.R_reads' HO296.out).2.1); rintro e w19 ⟨v298, v301, rfl, ho0, ho1, hb⟩; refine ⟨_, rfl, ?_⟩; have HO299 := Aside0.mk (Kd.R_lower (Kd.R_new' (Kd.R_new' ho0 (Kd.R_lt (RU HO293.out))) (Kd.R_lt (RU HO296.out))) (below_size (bS1 HB.out GE289.out))); have HO302 := Aside0.mk (Kd.R_lower (Kd.R_new' (Kd.R_new' ho1 (Kd.R_lt (RU HO293.out))) (Kd.R_lt (RU HO296.out))) (below_size (bS1 HB.out GE289.out))); replace HO293 := Aside0.mk (Kd.R_mono (Kd.R_told (Kd.R_told (Kd.R_old (RU HO293.out) hb) (Kd.R_base ho0)) (Kd.R_base ho1)) (fun _ h_ => h_.1)); replace HO296 := Aside0.mk (Kd.R_mono (Kd.R_told (Kd.R_told (Kd.R_old (RU HO296.out) hb) (Kd.R_base ho0)) (Kd.R_base ho1)) (fun _ h_ => h_.1)); replace BK289 := Aside0.mk (kB BK289.out hb); replace HB := Aside0.mk (below_step (bS1 HB.out GE289.out) hb); (try clear hb); (try clear hb2); (try clear hk); (try clear hi); (try clear ho0); (try clear ho1)) | ((with_reducible refine gate_dst (N := 4) rfl ?_); refine box_event ?hg (N := 4) ?hd (cs := #[.slice none 0 0, .slice none 0 0]) (t := 26) ?hr ?_; (case hd => rfl); (case hg => rfl); (case hr => first | (go_simp; done) | (go_simp; rfl)); intro gb304 hg w20 hbox hb; replace HO293 := Aside0.mk (Kd.R_below (RU HO293.out) hb); replace HO296 := Aside0.mk (Kd.R_below (RU HO296.out) hb); replace HO299 := Aside0.mk (Kd.R_below (RU HO299.out) hb); replace HO302 := Aside0.mk (Kd.R_below (RU HO302.out) hb); have BK304 := Aside0.mk (hbox); have GW304 := Aside0.mk ((by rw [hg]; exact (below_size (bS1 HB.out GE289.out)) : w.heap.size ≤ gb304)); have GE304 := Aside0.mk ((by rw [hg]; exact (below_size (bS1 HB.out GE289.out)) : w.heap.size ≤ gb304)); replace HB := Aside0.mk (below_step (bS1 HB.out GE289.out) hb); have NB289_304 := Aside0.mk (kN BK289.out hg); have NB304_289 := Aside0.mk (kM BK289.out hg); replace BK289 := Aside0.mk (kB BK289.out hb); clear hb hbox hg; obtain ⟨Ao21, co21, eo21⟩ := Kd.R_slice HO299.out; subst eo21; have hnb22 := NB304_289.out; have hnc22 := NB289_304.out; have hcz23_0 : w20.cell? ⟨gb304, 0, none⟩ = some (.slice none 0 0) := (blk_cell BK304.out 0).trans rfl; have hcz23_1 : w20.cell? ⟨gb304, 1, none⟩ = some (.slice none 0 0) := (blk_cell BK304.out 1).trans rfl; have hfz23_0 := blk_frozen BK304.out 0; have hfz23_1 := blk_frozen BK304.out 1; obtain ⟨Ao24, co24, eo24⟩ := Kd.R_slice HO302.out; subst eo24; have hcz25_0 : w20.cell? ⟨gb289, 0, none⟩ = some (.slice A0_0 l0_0.length c0_0) := (blk_cell BK289.out 0).trans rfl; have hcz25_1 : w20.cell? ⟨gb289, 1, none⟩ = some (.slice A0_1 l0_1.length c0_1) := (blk_cell BK289.out 1).trans rfl; have hfz25_0 := blk_frozen BK289.out 0; have hfz25_1 := blk_frozen BK289.out 1) | ((with_reducible refine gate_callee (f := 17) rfl ?_); refine goesL_ (some 26) rfl rfl Try.func17 (by kernel_rfl) rfl #[.agg #[.slice A0_0 l0_0.length c0_0, .slice A0_1 l0_1.length c0_1]] rfl lU ?_; (with_reducible refine (laws_toArray.calls k _ _ l0_0 _ _ l0_1 t305 t308 _ ?side1 ?side2 ?side3 ?side4 A9.out).mono ?_); (case side1 => exact Kd.C_below HR0_0.out (bS2 HB.out GE289.out GE304.out)); (case side2 => exact HC0_0.out); (case side3 => exact Kd.C_below HR0_1.out (bS2 HB.out GE289.out GE304.out)); (case side4 => exact HC0_1.out); rintro e w26 ⟨v306, v309, rfl, ho0, ho1, hb⟩; refine ⟨_, rfl, ?_⟩; have HO307 := Aside0.mk (Kd.R_lower (Kd.R_new' (Kd.R_new' (Kd.R_new' (Kd.R_new' ho0 (Kd.R_lt (by refine RU ?_; exact (far2 HO293.out BK304.out)))) (Kd.R_lt (by refine RU ?_; exact (far2 HO296.out BK304.out)))) (Kd.R_lt (by refine RU ?_; exact (far2 HO299.out BK304.out)))) (Kd.R_lt (by refine RU ?_; exact (far2 HO302.out BK304.out)))) (below_size (bS2 HB.out GE289.out GE304.out))); have HO310 := Aside0.mk (Kd.R_lower (Kd.R_new' (Kd.R_new' (Kd.R_new' (Kd.R_new' ho1 (Kd.R_lt (by refine RU ?_; exact (far2 HO293.out BK304.out)))) (Kd.R_lt (by refine RU ?_; exact (far2 HO296.out BK304.out)))) (Kd.R_lt (by refine RU ?_; exact (far2 HO299.out BK304.out)))) (Kd.R_lt (by refine RU ?_; exact (far2 HO302.out BK304.out)))) (below_size (bS2 HB.out GE289.out GE304.out))); replace HO293 := Aside0.mk (Kd.R_mono (Kd.R_told (Kd.R_told (Kd.R_old (by refine RU ?_; exact (far2 HO293.out BK304.out)) hb) (Kd.R_base ho0)) (Kd.R_base ho1)) (fun _ h_ => h_.1)); replace HO296 := Aside0.mk (Kd.R_mono (Kd.R_told (Kd.R_told (Kd.R_old (by refine RU ?_; exact (far2 HO296.out BK304.out)) hb) (Kd.R_base ho0)) (Kd.R_base ho1)) (fun _ h_ => h_.1)); replace HO299 := Aside0.mk (Kd.R_mono (Kd.R_told (Kd.R_told (Kd.R_old (by refine RU ?_; exact (far2 HO299.out BK304.out)) hb) (Kd.R_base ho0)) (Kd.R_base ho1)) (fun _ h_ => h_.1)); replace HO302 := Aside0.mk (Kd.R_mono (Kd.R_told (Kd.R_told (Kd.R_old (by refine RU ?_; exact (far2 HO302.out BK304.out)) hb) (Kd.R_base ho0)) (Kd.R_base ho1)) (fun _ h_ => h_.1)); replace BK289 := Aside0.mk (blk_below (g := gb289) (o := .cells #[.slice A0_0 l0_0.length c0_0, .slice A0_1 l0_1.length c0_1] 24 (0, 0)) (by refine kU ?_; refine blk_far ?_ NB289_304.out _; refine kU ?_; refine blk_far ?_ NB289_304.out _; refine kU ?_; exact BK289.out) hb); replace BK304 := Aside0.mk (blk_below (g := gb304) (o := .cells #[.slice Ao21 t297.length co21, .slice Ao24 t300.length co24] 26 (0, 0)) (by refine kU ?_; refine blk_put (cs := #[.slice Ao21 t297.length co21, .slice none 0 0]) ?_ 1 _ rfl; refine kU ?_; refine blk_put (cs := #[.slice none 0 0, .slice none 0 0]) ?_ 0 _ rfl; refine kU ?_; exact BK304.out) hb); replace HB := Aside0.mk (below_step (bS2 HB.out GE289.out GE304.out) hb); (try clear hb); (try clear hb2); (try clear hk); (try clear hi); (try clear ho0); (try clear ho1)) | ((with_reducible refine gate_dst (N := 6) rfl ?_); refine box_event ?hg (N := 6) ?hd (cs := #[.slice none 0 0, .slice none 0 0]) (t := 26) ?hr ?_; (case hd => rfl); (case hg => rfl); (case hr => first | (go_simp; done) | (go_simp; rfl)); intro gb311 hg w27 hbox hb; replace HO293 := Aside0.mk (Kd.R_below (RU HO293.out) hb); replace HO296 := Aside0.mk (Kd.R_below (RU HO296.out) hb); replace HO299 := Aside0.mk (Kd.R_below (RU HO299.out) hb); replace HO302 := Aside0.mk (Kd.R_below (RU HO302.out) hb); replace HO307 := Aside0.mk (Kd.R_below (RU HO307.out) hb); replace HO310 := Aside0.mk (Kd.R_below (RU HO310.out) hb); have BK311 := Aside0.mk (hbox); have GW311 := Aside0.mk ((by rw [hg]; exact (below_size (bS2 HB.out GE289.out GE304.out)) : w.heap.size ≤ gb311)); have GE311 := Aside0.mk ((by rw [hg]; exact (below_size (bS2 HB.out GE289.out GE304.out)) : w.heap.size ≤ gb311)); replace HB := Aside0.mk (below_step (bS2 HB.out GE289.out GE304.out) hb); have NB289_311 := Aside0.mk (kN BK289.out hg); have NB311_289 := Aside0.mk (kM BK289.out hg); replace BK289 := Aside0.mk (kB BK289.out hb); have NB304_311 := Aside0.mk (kN BK304.out hg); have NB311_304 := Aside0.mk (kM BK304.out hg); replace BK304 := Aside0.mk (kB BK304.out hb); clear hb hbox hg; obtain ⟨Ao28, co28, eo28⟩ := Kd.R_slice HO307.out; subst eo28; have hnb29 := NB311_289.out; have hnc29 := NB289_311.out; have hnb30 := NB311_304.out; have hnc30 := NB304_311.out; have hcz31_0 : w27.cell? ⟨gb311, 0, none⟩ = some (.slice none 0 0) := (blk_cell BK311.out 0).trans rfl; have hcz31_1 : w27.cell? ⟨gb311, 1, none⟩ = some (.slice none 0 0) := (blk_cell BK311.out 1).trans rfl; have hfz31_0 := blk_frozen BK311.out 0; have hfz31_1 := blk_frozen BK311.out 1; obtain ⟨Ao32, co32, eo32⟩ := Kd.R_slice HO310.out; subst eo32) | ((with_reducible refine gate_callee (f := 30) rfl ?_); refine goesL_ (some 29) rfl rfl Try.func30 (by kernel_rfl) rfl #[.agg #[.slice Ao28 t305.length co28, .slice Ao32 t308.length co32]] rfl lU ?_; (with_reducible refine (impl_Turn.calls k _ _ t305 _ _ t308 t312 t315 t318 _ ?side1 ?side2 ?side3 ?side4 A10.out).mono ?_); (case side1 => refine (Kd.R_reads' (e := 3) (base := w.heap.size) (ok := fun k_ => ((((some k_ ≠ (.slice Ao32 t308.length co32 : Value).ownBlock ∧ some k_ ≠ (.slice Ao17 t291.length co17 : Value).ownBlock) ∧ some k_ ≠ (.slice Ao18 t294.length co18 : Value).ownBlock) ∧ some k_ ≠ (.slice Ao21 t297.length co21 : Value).ownBlock) ∧ some k_ ≠ (.slice Ao24 t300.length co24 : Value).ownBlock)) (n := t305.length) (c := co28) ?_).2.2; exact (by refine RU ?_; exact (far2 HO307.out BK311.out))); (case side2 => exact (Kd.R_reads' HO307.out).2.1); (case side3 => refine (Kd.R_reads' (e := 3) (base := w.heap.size) (ok := fun k_ => ((((some k_ ≠ (.slice Ao28 t305.length co28 : Value).ownBlock ∧ some k_ ≠ (.slice Ao17 t291.length co17 : Value).ownBlock) ∧ some k_ ≠ (.slice Ao18 t294.length co18 : Value).ownBlock) ∧ some k_ ≠ (.slice Ao21 t297.length co21 : Value).ownBlock) ∧ some k_ ≠ (.slice Ao24 t300.length co24 : Value).ownBlock)) (n := t308.length) (c := co32) ?_).2.2; exact (by refine RU ?_; exact (far2 HO310.out BK311.out))); (case side4 => exact (Kd.R_reads' HO310.out).2.1); rintro e w33 ⟨v313, v316, rfl, ho0, ho1, hb⟩; refine ⟨_, rfl, ?_⟩; have HO314 := Aside0.mk (Kd.R_lower (Kd.R_new' (Kd.R_new' (Kd.R_new' (Kd.R_new' (Kd.R_new' (Kd.R_new' ho0 (Kd.R_lt (by refine RU ?_; exact (far2 HO293.out BK311.out)))) (Kd.R_lt (by refine RU ?_; exact (far2 HO296.out BK311.out)))) (Kd.R_lt (by refine RU ?_; exact (far2 HO299.out BK311.out)))) (Kd.R_lt (by refine RU ?_; exact (far2 HO302.out BK311.out)))) (Kd.R_lt (by refine RU ?_; exact (far2 HO307.out BK311.out)))) (Kd.R_lt (by refine RU ?_; exact (far2 HO310.out BK311.out)))) (below_size (bS3 HB.out GE289.out GE304.out GE311.out))); have HO317 := Aside0.mk (Kd.R_lower (Kd.R_new' (Kd.R_new' (Kd.R_new' (Kd.R_new' (Kd.R_new' (Kd.R_new' ho1 (Kd.R_lt (by refine RU ?_; exact (far2 HO293.out BK311.out)))) (Kd.R_lt (by refine RU ?_; exact (far2 HO296.out BK311.out)))) (Kd.R_lt (by refine RU ?_; exact (far2 HO299.out BK311.out)))) (Kd.R_lt (by refine RU ?_; exact (far2 HO302.out BK311.out)))) (Kd.R_lt (by refine RU ?_; exact (far2 HO307.out BK311.out)))) (Kd.R_lt (by refine RU ?_; exact (far2 HO310.out BK311.out)))) (below_size (bS3 HB.out GE289.out GE304.out GE311.out))); replace HO293 := Aside0.mk (Kd.R_mono (Kd.R_told (Kd.R_told (Kd.R_old (by refine RU ?_; exact (far2 HO293.out BK311.out)) hb) (Kd.R_base ho0)) (Kd.R_base ho1)) (fun _ h_ => h_.1)); replace HO296 := Aside0.mk (Kd.R_mono (Kd.R_told (Kd.R_told (Kd.R_old (by refine RU ?_; exact (far2 HO296.out BK311.out)) hb) (Kd.R_base ho0)) (Kd.R_base ho1)) (fun _ h_ => h_.1)); replace HO299 := Aside0.mk (Kd.R_mono (Kd.R_told (Kd.R_told (Kd.R_old (by refine RU ?_; exact (far2 HO299.out BK311.out)) hb) (Kd.R_base ho0)) (Kd.R_base ho1)) (fun _ h_ => h_.1)); replace HO302 := Aside0.mk (Kd.R_mono (Kd.R_told (Kd.R_told (Kd.R_old (by refine RU ?_; exact (far2 HO302.out BK311.out)) hb) (Kd.R_base ho0)) (Kd.R_base ho1)) (fun _ h_ => h_.1)); replace HO307 := Aside0.mk (Kd.R_mono (Kd.R_told (Kd.R_told (Kd.R_old (by refine RU ?_; exact (far2 HO307.out BK311.out)) hb) (Kd.R_base ho0)) (Kd.R_base ho1)) (fun _ h_ => h_.1)); replace HO310 := Aside0.mk (Kd.R_mono (Kd.R_told (Kd.R_told (Kd.R_old (by refine RU ?_; exact (far2 HO310.out BK311.out)) hb) (Kd.R_base ho0)) (Kd.R_base ho1)) (fun _ h_ => h_.1)); replace BK289 := Aside0.mk (blk_below (g := gb289) (o := .cells #[.slice A0_0 l0_0.length c0_0, .slice A0_1 l0_1.length c0_1] 24 (0, 0)) (by refine kU ?_; refine blk_far ?_ NB289_311.out _; refine kU ?_; refine blk_far ?_ NB289_311.out _; refine kU ?_; exact BK289.out) hb); replace BK304 := Aside0.mk (blk_below (g := gb304) (o := .cells #[.slice Ao21 t297.length co21, .slice Ao24 t300.length co24] 26 (0, 0)) (by refine kU ?_; refine blk_far ?_ NB304_311.out _; refine kU ?_; refine blk_far ?_ NB304_311.out _; refine kU ?_; exact BK304.out) hb); replace BK311 := Aside0.mk (blk_below (g := gb311) (o := .cells #[.slice Ao28 t305.length co28, .slice Ao32 t308.length co32] 26 (0, 0)) (by refine kU ?_; refine blk_put (cs := #[.slice Ao28 t305.length co28, .slice none 0 0]) ?_ 1 _ rfl; refine kU ?_; refine blk_put (cs := #[.slice none 0 0, .slice none 0 0]) ?_ 0 _ rfl; refine kU ?_; exact BK311.out) hb); replace HB := Aside0.mk (below_step (bS3 HB.out GE289.out GE304.out GE311.out) hb); (try clear hb); (try clear hb2); (try clear hk); (try clear hi); (try clear ho0); (try clear ho1)) | ((with_reducible refine gate_dst (N := 7) rfl ?_); refine box_event ?hg (N := 7) ?hd (cs := #[.slice none 0 0, .slice none 0 0]) (t := 26) ?hr ?_; (case hd => rfl); (case hg => rfl); (case hr => first | (go_simp; done) | (go_simp; rfl)); intro gb319 hg w34 hbox hb; replace HO293 := Aside0.mk (Kd.R_below (RU HO293.out) hb); replace HO296 := Aside0.mk (Kd.R_below (RU HO296.out) hb); replace HO299 := Aside0.mk (Kd.R_below (RU HO299.out) hb); replace HO302 := Aside0.mk (Kd.R_below (RU HO302.out) hb); replace HO307 := Aside0.mk (Kd.R_below (RU HO307.out) hb); replace HO310 := Aside0.mk (Kd.R_below (RU HO310.out) hb); replace HO314 := Aside0.mk (Kd.R_below (RU HO314.out) hb); replace HO317 := Aside0.mk (Kd.R_below (RU HO317.out) hb); have BK319 := Aside0.mk (hbox); have GW319 := Aside0.mk ((by rw [hg]; exact (below_size (bS3 HB.out GE289.out GE304.out GE311.out)) : w.heap.size ≤ gb319)); have GE319 := Aside0.mk ((by rw [hg]; exact (below_size (bS3 HB.out GE289.out GE304.out GE311.out)) : w.heap.size ≤ gb319)); replace HB := Aside0.mk (below_step (bS3 HB.out GE289.out GE304.out GE311.out) hb); have NB289_319 := Aside0.mk (kN BK289.out hg); have NB319_289 := Aside0.mk (kM BK289.out hg); replace BK289 := Aside0.mk (kB BK289.out hb); have NB304_319 := Aside0.mk (kN BK304.out hg); have NB319_304 := Aside0.mk (kM BK304.out hg); replace BK304 := Aside0.mk (kB BK304.out hb); have NB311_319 := Aside0.mk (kN BK311.out hg); have NB319_311 := Aside0.mk (kM BK311.out hg); replace BK311 := Aside0.mk (kB BK311.out hb); clear hb hbox hg; obtain ⟨Ao35, co35, eo35⟩ := Kd.R_slice HO314.out; subst eo35; have hnb36 := NB319_289.out; have hnc36 := NB289_319.out; have hnb37 := NB319_304.out; have hnc37 := NB304_319.out; have hnb38 := NB319_311.out; have hnc38 := NB311_319.out; have hcz39_0 : w34.cell? ⟨gb319, 0, none⟩ = some (.slice none 0 0) := (blk_cell BK319.out 0).trans rfl; have hcz39_1 : w34.cell? ⟨gb319, 1, none⟩ = some (.slice none 0 0) := (blk_cell BK319.out 1).trans rfl; have hfz39_0 := blk_frozen BK319.out 0; have hfz39_1 := blk_frozen BK319.out 1; obtain ⟨Ao40, co40, eo40⟩ := Kd.R_slice HO317.out; subst eo40))
  (try simp only [Act.put, List.setIfInBounds_toArray, List.set_cons_zero, List.set_cons_succ])
  go_cut [40] (fun v40 wc => ∃ (kq : Nat) (x40_10 : Bool), v40 = .bool x40_10 ∧ Aside0 (laws_FnExactTurn.j0 kq t303 t318 x40_10 l0_0 l0_1 t297 t300 t305 t308 t312 t315 = some r) ∧ Aside0 (kq ≤ k) ∧ Aside0 (Kd.R (Kd.int .i64) 3 wc w.heap.size (fun k_ => some k_ ≠ ((.slice Ao24 t300.length co24) : Value).ownBlock ∧ some k_ ≠ ((.slice Ao28 t305.length co28) : Value).ownBlock ∧ some k_ ≠ ((.slice Ao32 t308.length co32) : Value).ownBlock ∧ some k_ ≠ ((.slice Ao35 t312.length co35) : Value).ownBlock ∧ some k_ ≠ ((.slice Ao40 t315.length co40) : Value).ownBlock) (.slice Ao21 t297.length co21) t297) ∧ Aside0 (Kd.R (Kd.int .i64) 3 wc w.heap.size (fun k_ => some k_ ≠ ((.slice Ao21 t297.length co21) : Value).ownBlock ∧ some k_ ≠ ((.slice Ao28 t305.length co28) : Value).ownBlock ∧ some k_ ≠ ((.slice Ao32 t308.length co32) : Value).ownBlock ∧ some k_ ≠ ((.slice Ao35 t312.length co35) : Value).ownBlock ∧ some k_ ≠ ((.slice Ao40 t315.length co40) : Value).ownBlock) (.slice Ao24 t300.length co24) t300) ∧ Aside0 (Kd.R (Kd.int .i64) 3 wc w.heap.size (fun k_ => some k_ ≠ ((.slice Ao21 t297.length co21) : Value).ownBlock ∧ some k_ ≠ ((.slice Ao24 t300.length co24) : Value).ownBlock ∧ some k_ ≠ ((.slice Ao32 t308.length co32) : Value).ownBlock ∧ some k_ ≠ ((.slice Ao35 t312.length co35) : Value).ownBlock ∧ some k_ ≠ ((.slice Ao40 t315.length co40) : Value).ownBlock) (.slice Ao28 t305.length co28) t305) ∧ Aside0 (Kd.R (Kd.int .i64) 3 wc w.heap.size (fun k_ => some k_ ≠ ((.slice Ao21 t297.length co21) : Value).ownBlock ∧ some k_ ≠ ((.slice Ao24 t300.length co24) : Value).ownBlock ∧ some k_ ≠ ((.slice Ao28 t305.length co28) : Value).ownBlock ∧ some k_ ≠ ((.slice Ao35 t312.length co35) : Value).ownBlock ∧ some k_ ≠ ((.slice Ao40 t315.length co40) : Value).ownBlock) (.slice Ao32 t308.length co32) t308) ∧ Aside0 (Kd.R (Kd.int .i64) 3 wc w.heap.size (fun k_ => some k_ ≠ ((.slice Ao21 t297.length co21) : Value).ownBlock ∧ some k_ ≠ ((.slice Ao24 t300.length co24) : Value).ownBlock ∧ some k_ ≠ ((.slice Ao28 t305.length co28) : Value).ownBlock ∧ some k_ ≠ ((.slice Ao32 t308.length co32) : Value).ownBlock ∧ some k_ ≠ ((.slice Ao40 t315.length co40) : Value).ownBlock) (.slice Ao35 t312.length co35) t312) ∧ Aside0 (Kd.R (Kd.int .i64) 3 wc w.heap.size (fun k_ => some k_ ≠ ((.slice Ao21 t297.length co21) : Value).ownBlock ∧ some k_ ≠ ((.slice Ao24 t300.length co24) : Value).ownBlock ∧ some k_ ≠ ((.slice Ao28 t305.length co28) : Value).ownBlock ∧ some k_ ≠ ((.slice Ao32 t308.length co32) : Value).ownBlock ∧ some k_ ≠ ((.slice Ao35 t312.length co35) : Value).ownBlock) (.slice Ao40 t315.length co40) t315) ∧ Aside0 (wc.heap[gb289]? = some (.cells #[(.slice A0_0 l0_0.length c0_0), (.slice A0_1 l0_1.length c0_1)] 24 (0, 0))) ∧ Aside0 (wc.heap[gb304]? = some (.cells #[(.slice Ao21 t297.length co21), (.slice Ao24 t300.length co24)] 26 (0, 0))) ∧ Aside0 (wc.heap[gb311]? = some (.cells #[(.slice Ao28 t305.length co28), (.slice Ao32 t308.length co32)] 26 (0, 0))) ∧ Aside0 (wc.heap[gb319]? = some (.cells #[(.slice Ao35 t312.length co35), (.slice Ao40 t315.length co40)] 26 (0, 0))) ∧ Aside0 (Below w.heap.size w wc))
  case first =>
   have H := HC11.out
   clear HC11
   replace H := Option.bind_eq_some_iff.mp H
   obtain ⟨t320, A410, H⟩ := H
   replace H : (if t320 = true then (laws_FnExactTurn.j0 k t303 t318 (t318 != t303) l0_0 l0_1 t297 t300 t305 t308 t312 t315) else (laws_FnExactTurn.j0 k t303 t318 true l0_0 l0_1 t297 t300 t305 t308 t312 t315)) = some r := H
   have A41 := Aside0.mk A410
   clear A410
   by_cases c42 : t320 = true
   ·
    subst c42
    have H1 : (laws_FnExactTurn.j0 k t303 t318 (t318 != t303) l0_0 l0_1 t297 t300 t305 t308 t312 t315) = some r := by rw [if_pos rfl] at H; exact H
    clear H
    have H := H1
    clear H1
    have H' := Aside0.mk H
    clear H
    have hnb43 := NB319_289.out
    have hnc43 := NB289_319.out
    have hnb44 := NB319_304.out
    have hnc44 := NB304_319.out
    have hnb45 := NB319_311.out
    have hnc45 := NB311_319.out
    have hcz46_0 : w34.cell? ⟨gb319, 0, none⟩ = some (.slice none 0 0) := (blk_cell BK319.out 0).trans rfl
    have hcz46_1 : w34.cell? ⟨gb319, 1, none⟩ = some (.slice none 0 0) := (blk_cell BK319.out 1).trans rfl
    have hfz46_0 := blk_frozen BK319.out 0
    have hfz46_1 := blk_frozen BK319.out 1
    have hnb47 := NB304_289.out
    have hnc47 := NB289_304.out
    have hnb48 := NB304_311.out
    have hnc48 := NB311_304.out
    have hcz49_0 : w34.cell? ⟨gb304, 0, none⟩ = some (.slice Ao21 t297.length co21) := (blk_cell BK304.out 0).trans rfl
    have hcz49_1 : w34.cell? ⟨gb304, 1, none⟩ = some (.slice Ao24 t300.length co24) := (blk_cell BK304.out 1).trans rfl
    have hfz49_0 := blk_frozen BK304.out 0
    have hfz49_1 := blk_frozen BK304.out 1
    go_wp2_with (first | ((with_reducible refine gate_callee (f := 19) rfl ?_); refine goesL_ (some 34) rfl rfl Try.func19 (by kernel_rfl) rfl #[.agg #[.slice Ao35 t312.length co35, .slice Ao40 t315.length co40], .agg #[.slice Ao21 t297.length co21, .slice Ao24 t300.length co24]] rfl lU ?_; (with_reducible refine (laws_eqArray.calls k _ _ t312 _ _ t315 _ _ t297 _ _ t300 true _ ?side1 ?side2 ?side3 ?side4 ?side5 ?side6 ?side7 ?side8 A41.out).mono ?_); (case side1 => refine (Kd.R_reads' (e := 3) (base := w.heap.size) (ok := fun k_ => ((((((some k_ ≠ (.slice Ao40 t315.length co40 : Value).ownBlock ∧ some k_ ≠ (.slice Ao17 t291.length co17 : Value).ownBlock) ∧ some k_ ≠ (.slice Ao18 t294.length co18 : Value).ownBlock) ∧ some k_ ≠ (.slice Ao21 t297.length co21 : Value).ownBlock) ∧ some k_ ≠ (.slice Ao24 t300.length co24 : Value).ownBlock) ∧ some k_ ≠ (.slice Ao28 t305.length co28 : Value).ownBlock) ∧ some k_ ≠ (.slice Ao32 t308.length co32 : Value).ownBlock)) (n := t312.length) (c := co35) ?_).2.2; exact (by refine RU ?_; exact (far2 HO314.out BK319.out))); (case side2 => exact (Kd.R_reads' HO314.out).2.1); (case side3 => refine (Kd.R_reads' (e := 3) (base := w.heap.size) (ok := fun k_ => ((((((some k_ ≠ (.slice Ao35 t312.length co35 : Value).ownBlock ∧ some k_ ≠ (.slice Ao17 t291.length co17 : Value).ownBlock) ∧ some k_ ≠ (.slice Ao18 t294.length co18 : Value).ownBlock) ∧ some k_ ≠ (.slice Ao21 t297.length co21 : Value).ownBlock) ∧ some k_ ≠ (.slice Ao24 t300.length co24 : Value).ownBlock) ∧ some k_ ≠ (.slice Ao28 t305.length co28 : Value).ownBlock) ∧ some k_ ≠ (.slice Ao32 t308.length co32 : Value).ownBlock)) (n := t315.length) (c := co40) ?_).2.2; exact (by refine RU ?_; exact (far2 HO317.out BK319.out))); (case side4 => exact (Kd.R_reads' HO317.out).2.1); (case side5 => refine (Kd.R_reads' (e := 3) (base := w.heap.size) (ok := fun k_ => ((((((some k_ ≠ (.slice Ao24 t300.length co24 : Value).ownBlock ∧ some k_ ≠ (.slice Ao17 t291.length co17 : Value).ownBlock) ∧ some k_ ≠ (.slice Ao18 t294.length co18 : Value).ownBlock) ∧ some k_ ≠ (.slice Ao28 t305.length co28 : Value).ownBlock) ∧ some k_ ≠ (.slice Ao32 t308.length co32 : Value).ownBlock) ∧ some k_ ≠ (.slice Ao35 t312.length co35 : Value).ownBlock) ∧ some k_ ≠ (.slice Ao40 t315.length co40 : Value).ownBlock)) (n := t297.length) (c := co21) ?_).2.2; exact (by refine RU ?_; exact (far2 HO299.out BK319.out))); (case side6 => exact (Kd.R_reads' HO299.out).2.1); (case side7 => refine (Kd.R_reads' (e := 3) (base := w.heap.size) (ok := fun k_ => ((((((some k_ ≠ (.slice Ao21 t297.length co21 : Value).ownBlock ∧ some k_ ≠ (.slice Ao17 t291.length co17 : Value).ownBlock) ∧ some k_ ≠ (.slice Ao18 t294.length co18 : Value).ownBlock) ∧ some k_ ≠ (.slice Ao28 t305.length co28 : Value).ownBlock) ∧ some k_ ≠ (.slice Ao32 t308.length co32 : Value).ownBlock) ∧ some k_ ≠ (.slice Ao35 t312.length co35 : Value).ownBlock) ∧ some k_ ≠ (.slice Ao40 t315.length co40 : Value).ownBlock)) (n := t300.length) (c := co24) ?_).2.2; exact (by refine RU ?_; exact (far2 HO302.out BK319.out))); (case side8 => exact (Kd.R_reads' HO302.out).2.1); rintro e w50 ⟨rfl, hb⟩; refine ⟨_, rfl, ?_⟩; replace HO293 := Aside0.mk (Kd.R_below (by refine RU ?_; exact (far2 HO293.out BK319.out)) hb); replace HO296 := Aside0.mk (Kd.R_below (by refine RU ?_; exact (far2 HO296.out BK319.out)) hb); replace HO299 := Aside0.mk (Kd.R_below (by refine RU ?_; exact (far2 HO299.out BK319.out)) hb); replace HO302 := Aside0.mk (Kd.R_below (by refine RU ?_; exact (far2 HO302.out BK319.out)) hb); replace HO307 := Aside0.mk (Kd.R_below (by refine RU ?_; exact (far2 HO307.out BK319.out)) hb); replace HO310 := Aside0.mk (Kd.R_below (by refine RU ?_; exact (far2 HO310.out BK319.out)) hb); replace HO314 := Aside0.mk (Kd.R_below (by refine RU ?_; exact (far2 HO314.out BK319.out)) hb); replace HO317 := Aside0.mk (Kd.R_below (by refine RU ?_; exact (far2 HO317.out BK319.out)) hb); replace BK289 := Aside0.mk (blk_below (g := gb289) (o := .cells #[.slice A0_0 l0_0.length c0_0, .slice A0_1 l0_1.length c0_1] 24 (0, 0)) (by refine kU ?_; refine blk_far ?_ NB289_319.out _; refine kU ?_; refine blk_far ?_ NB289_319.out _; refine kU ?_; exact BK289.out) hb); replace BK304 := Aside0.mk (blk_below (g := gb304) (o := .cells #[.slice Ao21 t297.length co21, .slice Ao24 t300.length co24] 26 (0, 0)) (by refine kU ?_; refine blk_far ?_ NB304_319.out _; refine kU ?_; refine blk_far ?_ NB304_319.out _; refine kU ?_; exact BK304.out) hb); replace BK311 := Aside0.mk (blk_below (g := gb311) (o := .cells #[.slice Ao28 t305.length co28, .slice Ao32 t308.length co32] 26 (0, 0)) (by refine kU ?_; refine blk_far ?_ NB311_319.out _; refine kU ?_; refine blk_far ?_ NB311_319.out _; refine kU ?_; exact BK311.out) hb); replace BK319 := Aside0.mk (blk_below (g := gb319) (o := .cells #[.slice Ao35 t312.length co35, .slice Ao40 t315.length co40] 26 (0, 0)) (by refine kU ?_; refine blk_put (cs := #[.slice Ao35 t312.length co35, .slice none 0 0]) ?_ 1 _ rfl; refine kU ?_; refine blk_put (cs := #[.slice none 0 0, .slice none 0 0]) ?_ 0 _ rfl; refine kU ?_; exact BK319.out) hb); replace HB := Aside0.mk (below_step (bS4 HB.out GE289.out GE304.out GE311.out GE319.out) hb); (try clear hb); (try clear hb2); (try clear hk); (try clear hi)))
    go_meet
    case rel => exact ⟨_, ((t318 != t303)), (by first | rfl | (simp; done) | (simp [*]; done)), H', ⟨by first | omega | exact Nat.le_refl _⟩, ⟨by refine RU ?_; exact Kd.R_mono HO299.out (fun _ hk => ⟨hk.1.1.1.1.1.1, ⟨hk.1.1.1.2, ⟨hk.1.1.2, ⟨hk.1.2, hk.2⟩⟩⟩⟩)⟩, ⟨by refine RU ?_; exact Kd.R_mono HO302.out (fun _ hk => ⟨hk.1.1.1.1.1.1, ⟨hk.1.1.1.2, ⟨hk.1.1.2, ⟨hk.1.2, hk.2⟩⟩⟩⟩)⟩, ⟨by refine RU ?_; exact Kd.R_mono HO307.out (fun _ hk => ⟨hk.1.1.1.2, ⟨hk.1.1.2, ⟨hk.1.1.1.1.1.1, ⟨hk.1.2, hk.2⟩⟩⟩⟩)⟩, ⟨by refine RU ?_; exact Kd.R_mono HO310.out (fun _ hk => ⟨hk.1.1.1.2, ⟨hk.1.1.2, ⟨hk.1.1.1.1.1.1, ⟨hk.1.2, hk.2⟩⟩⟩⟩)⟩, ⟨by refine RU ?_; exact Kd.R_mono HO314.out (fun _ hk => ⟨hk.1.1.1.2, ⟨hk.1.1.2, ⟨hk.1.2, ⟨hk.2, hk.1.1.1.1.1.1⟩⟩⟩⟩)⟩, ⟨by refine RU ?_; exact Kd.R_mono HO317.out (fun _ hk => ⟨hk.1.1.1.2, ⟨hk.1.1.2, ⟨hk.1.2, ⟨hk.2, hk.1.1.1.1.1.1⟩⟩⟩⟩)⟩, ⟨by refine kU ?_; exact BK289.out⟩, ⟨by refine kU ?_; exact BK304.out⟩, ⟨by refine kU ?_; exact BK311.out⟩, ⟨by refine kU ?_; exact BK319.out⟩, ⟨by exact bS4 HB.out GE289.out GE304.out GE311.out GE319.out⟩⟩
   ·
    replace c42 := Bool.eq_false_iff.mpr c42
    subst c42
    have H1 : (laws_FnExactTurn.j0 k t303 t318 true l0_0 l0_1 t297 t300 t305 t308 t312 t315) = some r := by rw [if_neg (show ¬ (false = true) by decide)] at H; exact H
    clear H
    have H := H1
    clear H1
    have hz_ : ∀ kz, laws_FnExactTurn.j0 kz t303 t318 true l0_0 l0_1 t297 t300 t305 t308 t312 t315 = some r → r = false := by intro kz hz; cases kz with | zero => exact absurd hz (by simp [laws_FnExactTurn.j0]) | succ kz => simp only [laws_FnExactTurn.j0] at hz; first | (rw [if_pos rfl] at hz; exact (Option.some.inj hz).symm) | (simp at hz; exact hz.symm) | (simp at hz; exact hz)
    exact absurd (HT.out.symm.trans (hz_ _ H)) (by decide)
  case rest =>
   clear HC11
   try clear c1
   try clear c2
   try clear p2
   try clear c3
   try clear c3b0
   try clear c4
   try clear c5
   try clear c15
   try clear c17
   try clear c19
   try clear c22
   try clear c29
   try clear c30
   try clear c36
   try clear c37
   try clear c38
   try clear c42
   try clear c43
   try clear c44
   try clear c45
   try clear c47
   try clear c48
   try clear hcz13_0
   try clear hcz13_1
   try clear hcz15_0
   try clear hcz15_1
   try clear hcz23_0
   try clear hcz23_1
   try clear hcz25_0
   try clear hcz25_1
   try clear hcz31_0
   try clear hcz31_1
   try clear hcz39_0
   try clear hcz39_1
   try clear hcz46_0
   try clear hcz46_1
   try clear hcz49_0
   try clear hcz49_1
   try clear hcz5_0
   try clear hcz5_1
   try clear hfz13_0
   try clear hfz13_1
   try clear hfz15_0
   try clear hfz15_1
   try clear hfz23_0
   try clear hfz23_1
   try clear hfz25_0
   try clear hfz25_1
   try clear hfz31_0
   try clear hfz31_1
   try clear hfz39_0
   try clear hfz39_1
   try clear hfz46_0
   try clear hfz46_1
   try clear hfz49_0
   try clear hfz49_1
   try clear hfz5_0
   try clear hfz5_1
   obtain ⟨kq, x40_10, rfl, HA, HJ10, HO_305000, HO_305001, HO_312000, HO_312001, HO_320000, HO_320001, BK289, BK304, BK311, BK319, HB⟩ := hcut
   cases kq with
   | zero => exact absurd HA.out (by simp [laws_FnExactTurn.j0])
   | succ kj10 =>
    have H := HA.out
    clear HA
    simp only [laws_FnExactTurn.j0] at H
    by_cases c51 : x40_10 = true
    ·
     subst c51
     have H1 : (some false) = some r := by rw [if_pos rfl] at H; exact H
     clear H
     have H := H1
     clear H1
     obtain rfl := Option.some.inj H
     exact absurd HT.out (by decide)
    ·
     replace c51 := Bool.eq_false_iff.mpr c51
     subst c51
     have H1 : ((laws_toArray.f kj10 l0_0 l0_1).bind fun bt321 => ((laws_eqArray.f kj10 t305 t308 bt321.1 bt321.2).bind fun t327 => (if t327 = true then ((laws_markArray.f kj10 t305 t308 1).bind fun bt328 => (if bt328.1 < 0 then (laws_FnExactTurn.j1 kj10 t303 true l0_0 l0_1 t297 t300 t312 t315) else ((laws_eqArray.f kj10 t312 t315 t297 t300).bind fun t331 => (if t331 = true then (laws_FnExactTurn.j1 kj10 t303 (t318 != t303) l0_0 l0_1 t297 t300 t312 t315) else (laws_FnExactTurn.j1 kj10 t303 true l0_0 l0_1 t297 t300 t312 t315))))) else (some false)))) = some r := by rw [if_neg (show ¬ (false = true) by decide)] at H; exact H
     clear H
     have H := H1
     clear H1
     replace H := Option.bind_eq_some_iff.mp H
     obtain ⟨⟨t321, t324⟩, A520, H⟩ := H
     replace H : ((laws_eqArray.f kj10 t305 t308 t321 t324).bind fun t327 => (if t327 = true then ((laws_markArray.f kj10 t305 t308 1).bind fun bt328 => (if bt328.1 < 0 then (laws_FnExactTurn.j1 kj10 t303 true l0_0 l0_1 t297 t300 t312 t315) else ((laws_eqArray.f kj10 t312 t315 t297 t300).bind fun t331 => (if t331 = true then (laws_FnExactTurn.j1 kj10 t303 (t318 != t303) l0_0 l0_1 t297 t300 t312 t315) else (laws_FnExactTurn.j1 kj10 t303 true l0_0 l0_1 t297 t300 t312 t315))))) else (some false))) = some r := H
     have A52 := Aside0.mk A520
     clear A520
     replace H := Option.bind_eq_some_iff.mp H
     obtain ⟨t327, A530, H⟩ := H
     replace H : (if t327 = true then ((laws_markArray.f kj10 t305 t308 1).bind fun bt328 => (if bt328.1 < 0 then (laws_FnExactTurn.j1 kj10 t303 true l0_0 l0_1 t297 t300 t312 t315) else ((laws_eqArray.f kj10 t312 t315 t297 t300).bind fun t331 => (if t331 = true then (laws_FnExactTurn.j1 kj10 t303 (t318 != t303) l0_0 l0_1 t297 t300 t312 t315) else (laws_FnExactTurn.j1 kj10 t303 true l0_0 l0_1 t297 t300 t312 t315))))) else (some false)) = some r := H
     have A53 := Aside0.mk A530
     clear A530
     by_cases c54 : t327 = true
     ·
      subst c54
      have H1 : ((laws_markArray.f kj10 t305 t308 1).bind fun bt328 => (if bt328.1 < 0 then (laws_FnExactTurn.j1 kj10 t303 true l0_0 l0_1 t297 t300 t312 t315) else ((laws_eqArray.f kj10 t312 t315 t297 t300).bind fun t331 => (if t331 = true then (laws_FnExactTurn.j1 kj10 t303 (t318 != t303) l0_0 l0_1 t297 t300 t312 t315) else (laws_FnExactTurn.j1 kj10 t303 true l0_0 l0_1 t297 t300 t312 t315))))) = some r := by rw [if_pos rfl] at H; exact H
      clear H
      have H := H1
      clear H1
      replace H := Option.bind_eq_some_iff.mp H
      obtain ⟨⟨t328, t329, t330⟩, A550, H⟩ := H
      replace H : (if t328 < 0 then (laws_FnExactTurn.j1 kj10 t303 true l0_0 l0_1 t297 t300 t312 t315) else ((laws_eqArray.f kj10 t312 t315 t297 t300).bind fun t331 => (if t331 = true then (laws_FnExactTurn.j1 kj10 t303 (t318 != t303) l0_0 l0_1 t297 t300 t312 t315) else (laws_FnExactTurn.j1 kj10 t303 true l0_0 l0_1 t297 t300 t312 t315)))) = some r := H
      have A55 := Aside0.mk A550
      clear A550
      have HC56 := Aside0.mk H
      clear H
      try go_wp2
      replace HO_305000 := Aside0.mk (Kd.R_drew HO_305000.out)
      replace HO_305001 := Aside0.mk (Kd.R_drew HO_305001.out)
      replace HO_312000 := Aside0.mk (Kd.R_drew HO_312000.out)
      replace HO_312001 := Aside0.mk (Kd.R_drew HO_312001.out)
      replace HO_320000 := Aside0.mk (Kd.R_drew HO_320000.out)
      replace HO_320001 := Aside0.mk (Kd.R_drew HO_320001.out)
      replace BK289 := Aside0.mk (blk_drew BK289.out)
      replace BK304 := Aside0.mk (blk_drew BK304.out)
      replace BK311 := Aside0.mk (blk_drew BK311.out)
      replace BK319 := Aside0.mk (blk_drew BK319.out)
      replace HB := Aside0.mk (below_drew1 HB.out)
      refine start_ (n := 5) (S := fun w' => w'.cell? ⟨gb311, 0, none⟩ = some (.slice Ao28 t305.length co28) ∧ w'.cell? ⟨gb311, 1, none⟩ = some (.slice Ao32 t308.length co32) ∧ w'.cell? ⟨gb289, 0, none⟩ = some (.slice A0_0 l0_0.length c0_0) ∧ w'.cell? ⟨gb289, 1, none⟩ = some (.slice A0_1 l0_1.length c0_1)) (ds := []) #[false, false, false, false, false] (by kernel_rfl) rfl rfl ⟨(blk_cell BK311.out 0).trans rfl, (blk_cell BK311.out 1).trans rfl, (blk_cell BK289.out 0).trans rfl, (blk_cell BK289.out 1).trans rfl⟩ (fun hHeld => ?_)
      generalize wc.drew = w57 at HO_305000 HO_305001 HO_312000 HO_312001 HO_320000 HO_320001 BK289 BK304 BK311 BK319 HB hHeld ⊢
      refine take_ (i := 0) (N := some 41) (v := ?_) (a' := ?_) #[true, false, false, false, false] rfl rfl (by kernel_rfl) (fun _ _ _ h => h) (Or.inl ⟨by rfl, ?_⟩) hHeld ?_ ?_
      rotate_left
      ·
       rintro w' ⟨s0, s1, s2, s3⟩
       go_simp
       with_reducible rfl
      rotate_left
      ·
       simp only [Act.put, List.setIfInBounds_toArray, List.set_cons_zero, List.set_cons_succ, i64_w, i32_w]
       rfl
      refine take_ (i := 1) (N := some 42) (v := ?_) (a' := ?_) #[true, true, false, false, false] rfl rfl (by kernel_rfl) (fun _ _ _ h => h) (Or.inl ⟨by rfl, ?_⟩) hHeld ?_ ?_
      rotate_left
      ·
       rintro w' ⟨s0, s1, s2, s3⟩
       go_simp
       with_reducible rfl
      rotate_left
      ·
       simp only [Act.put, List.setIfInBounds_toArray, List.set_cons_zero, List.set_cons_succ, i64_w, i32_w]
       rfl
      refine one_ (i := 2) (N := some 43) #[true, true, true, false, false] rfl rfl (by kernel_rfl) (by decide) (fun K hK => ?_)
      refine goes_ Try.func17 (by kernel_rfl) rfl #[.agg #[.slice A0_0 l0_0.length c0_0, .slice A0_1 l0_1.length c0_1]] (by rfl) rfl rfl lU ?_
      with_reducible refine (laws_toArray.calls kj10 _ _ l0_0 _ _ l0_1 t321 t324 _ ?side1 ?side2 ?side3 ?side4 A52.out).mono ?_
      (case side1 => exact cU (Kd.C_below HR0_0.out HB.out))
      (case side2 => exact HC0_0.out)
      (case side3 => exact cU (Kd.C_below HR0_1.out HB.out))
      (case side4 => exact HC0_1.out)
      rintro e w58 ⟨v322, v325, rfl, ho0, ho1, hb⟩
      refine ⟨_, rfl, ?_⟩
      have HO323 := Aside0.mk (Kd.R_lower (Kd.R_new' (Kd.R_new' (Kd.R_new' (Kd.R_new' (Kd.R_new' (Kd.R_new' ho0 (Kd.R_lt (RU HO_305000.out))) (Kd.R_lt (RU HO_305001.out))) (Kd.R_lt (RU HO_312000.out))) (Kd.R_lt (RU HO_312001.out))) (Kd.R_lt (RU HO_320000.out))) (Kd.R_lt (RU HO_320001.out))) (below_size (bS4 HB.out GE289.out GE304.out GE311.out GE319.out)))
      have HO326 := Aside0.mk (Kd.R_lower (Kd.R_new' (Kd.R_new' (Kd.R_new' (Kd.R_new' (Kd.R_new' (Kd.R_new' ho1 (Kd.R_lt (RU HO_305000.out))) (Kd.R_lt (RU HO_305001.out))) (Kd.R_lt (RU HO_312000.out))) (Kd.R_lt (RU HO_312001.out))) (Kd.R_lt (RU HO_320000.out))) (Kd.R_lt (RU HO_320001.out))) (below_size (bS4 HB.out GE289.out GE304.out GE311.out GE319.out)))
      replace HO_305000 := Aside0.mk (Kd.R_mono (Kd.R_told (Kd.R_told (Kd.R_old (RU HO_305000.out) hb) (Kd.R_base ho0)) (Kd.R_base ho1)) (fun _ h_ => h_.1))
      replace HO_305001 := Aside0.mk (Kd.R_mono (Kd.R_told (Kd.R_told (Kd.R_old (RU HO_305001.out) hb) (Kd.R_base ho0)) (Kd.R_base ho1)) (fun _ h_ => h_.1))
      replace HO_312000 := Aside0.mk (Kd.R_mono (Kd.R_told (Kd.R_told (Kd.R_old (RU HO_312000.out) hb) (Kd.R_base ho0)) (Kd.R_base ho1)) (fun _ h_ => h_.1))
      replace HO_312001 := Aside0.mk (Kd.R_mono (Kd.R_told (Kd.R_told (Kd.R_old (RU HO_312001.out) hb) (Kd.R_base ho0)) (Kd.R_base ho1)) (fun _ h_ => h_.1))
      replace HO_320000 := Aside0.mk (Kd.R_mono (Kd.R_told (Kd.R_told (Kd.R_old (RU HO_320000.out) hb) (Kd.R_base ho0)) (Kd.R_base ho1)) (fun _ h_ => h_.1))
      replace HO_320001 := Aside0.mk (Kd.R_mono (Kd.R_told (Kd.R_told (Kd.R_old (RU HO_320001.out) hb) (Kd.R_base ho0)) (Kd.R_base ho1)) (fun _ h_ => h_.1))
      replace BK289 := Aside0.mk (kB BK289.out hb)
      replace BK304 := Aside0.mk (kB BK304.out hb)
      replace BK311 := Aside0.mk (kB BK311.out hb)
      replace BK319 := Aside0.mk (kB BK319.out hb)
      replace HB := Aside0.mk (below_step (bS4 HB.out GE289.out GE304.out GE311.out GE319.out) hb)
      (try clear hb)
      (try clear hb2)
      (try clear hk)
      (try clear hi)
      (try clear ho0)
      (try clear ho1)
      obtain ⟨Ao59, co59, eo59⟩ := Kd.R_slice HO323.out
      (first | subst eo59 | (injection eo59 with f1_ f2_ f3_; have f4_ := f1_.symm; have f5_ := f3_.symm; clear f1_ f2_ f3_; subst f4_; subst f5_))
      obtain ⟨Ao60, co60, eo60⟩ := Kd.R_slice HO326.out
      (first | subst eo60 | (injection eo60 with f1_ f2_ f3_; have f4_ := f1_.symm; have f5_ := f3_.symm; clear f1_ f2_ f3_; subst f4_; subst f5_))
      refine hK.out _ _ ⟨(blk_cell BK311.out 0).trans rfl, (blk_cell BK311.out 1).trans rfl, (blk_cell BK289.out 0).trans rfl, (blk_cell BK289.out 1).trans rfl⟩ (fun hHeld => ?_)
      clear hK K
      refine norm_ (a' := ?_) ?_ ?_
      rotate_left
      ·
       show Act.put _ (some 43) _ = _
       simp only [Act.put, List.setIfInBounds_toArray, List.set_cons_zero, List.set_cons_succ, i64_w, i32_w]
       rfl
      refine one_ (i := 3) (N := some 44) #[true, true, true, true, false] rfl rfl (by kernel_rfl) (by decide) (fun K hK => ?_)
      refine goes_ Try.func19 (by kernel_rfl) rfl #[.agg #[.slice Ao28 t305.length co28, .slice Ao32 t308.length co32], .agg #[.slice Ao59 t321.length co59, .slice Ao60 t324.length co60]] (by rfl) rfl rfl lU ?_
      with_reducible refine (laws_eqArray.calls kj10 _ _ t305 _ _ t308 _ _ t321 _ _ t324 true _ ?side1 ?side2 ?side3 ?side4 ?side5 ?side6 ?side7 ?side8 A53.out).mono ?_
      (case side1 => exact cU (Kd.R_reads' HO_312000.out).2.2)
      (case side2 => exact (Kd.R_reads' HO_312000.out).2.1)
      (case side3 => exact cU (Kd.R_reads' HO_312001.out).2.2)
      (case side4 => exact (Kd.R_reads' HO_312001.out).2.1)
      (case side5 => exact cU (Kd.R_reads' HO323.out).2.2)
      (case side6 => exact (Kd.R_reads' HO323.out).2.1)
      (case side7 => exact cU (Kd.R_reads' HO326.out).2.2)
      (case side8 => exact (Kd.R_reads' HO326.out).2.1)
      rintro e w61 ⟨rfl, hb⟩
      refine ⟨_, rfl, ?_⟩
      replace HO_305000 := Aside0.mk (Kd.R_below (RU HO_305000.out) hb)
      replace HO_305001 := Aside0.mk (Kd.R_below (RU HO_305001.out) hb)
      replace HO_312000 := Aside0.mk (Kd.R_below (RU HO_312000.out) hb)
      replace HO_312001 := Aside0.mk (Kd.R_below (RU HO_312001.out) hb)
      replace HO_320000 := Aside0.mk (Kd.R_below (RU HO_320000.out) hb)
      replace HO_320001 := Aside0.mk (Kd.R_below (RU HO_320001.out) hb)
      replace HO323 := Aside0.mk (Kd.R_below (RU HO323.out) hb)
      replace HO326 := Aside0.mk (Kd.R_below (RU HO326.out) hb)
      replace BK289 := Aside0.mk (kB BK289.out hb)
      replace BK304 := Aside0.mk (kB BK304.out hb)
      replace BK311 := Aside0.mk (kB BK311.out hb)
      replace BK319 := Aside0.mk (kB BK319.out hb)
      replace HB := Aside0.mk (below_step (bS4 HB.out GE289.out GE304.out GE311.out GE319.out) hb)
      (try clear hb)
      (try clear hb2)
      (try clear hk)
      (try clear hi)
      refine hK.out _ _ ⟨(blk_cell BK311.out 0).trans rfl, (blk_cell BK311.out 1).trans rfl, (blk_cell BK289.out 0).trans rfl, (blk_cell BK289.out 1).trans rfl⟩ (fun hHeld => ?_)
      clear hK K
      refine norm_ (a' := ?_) ?_ ?_
      rotate_left
      ·
       show Act.put _ (some 44) _ = _
       simp only [Act.put, List.setIfInBounds_toArray, List.set_cons_zero, List.set_cons_succ, i64_w, i32_w]
       rfl
      refine pure_ (i := 4) (N := some 45) (v := ?_) (a' := ?_) #[true, true, true, true, true] rfl rfl (by kernel_rfl) (fun _ _ _ h => h) (Or.inl ⟨by rfl, ?_⟩) ?_ ?_
      rotate_left
      ·
       intro w'
       go_simp
       with_reducible rfl
      rotate_left
      ·
       simp only [Act.put, List.setIfInBounds_toArray, List.set_cons_zero, List.set_cons_succ, i64_w, i32_w]
       rfl
      refine done_ (by kernel_rfl) ?_
      have hnb62 := NB311_289.out
      have hnc62 := NB289_311.out
      have hnb63 := NB311_304.out
      have hnc63 := NB304_311.out
      have hnb64 := NB311_319.out
      have hnc64 := NB319_311.out
      have hcz65_0 : w61.cell? ⟨gb311, 0, none⟩ = some (.slice Ao28 t305.length co28) := (blk_cell BK311.out 0).trans rfl
      have hcz65_1 : w61.cell? ⟨gb311, 1, none⟩ = some (.slice Ao32 t308.length co32) := (blk_cell BK311.out 1).trans rfl
      have hfz65_0 := blk_frozen BK311.out 0
      have hfz65_1 := blk_frozen BK311.out 1
      go_upto_region 14 with (first | ((with_reducible refine gate_callee (f := 20) rfl ?_); refine goesL_ (some 48) rfl rfl Try.func20 (by kernel_rfl) rfl #[.agg #[.slice Ao28 t305.length co28, .slice Ao32 t308.length co32], .int .i64 1] rfl lU ?_; (with_reducible refine (laws_markArray.calls kj10 (fun k_ => some k_ = (.slice Ao28 t305.length co28 : Value).ownBlock) (.slice Ao28 t305.length co28) t305 (fun k_ => some k_ = (.slice Ao32 t308.length co32 : Value).ownBlock) (.slice Ao32 t308.length co32) t308 1 t328 t329 t330 w _ ?side1 ?side2 ?side3 ?side4 ?side5 A55.out).mono ?_); (case side1 => exact bS4 HB.out GE289.out GE304.out GE311.out GE319.out); (case side2 => exact Kd.R_tight rfl HO_312000.out); (case side3 => exact fun k_ e_ => (HO_312000.out.1 k_ e_.symm).1.1.2.2.1); (case side4 => exact Kd.R_tight rfl HO_312001.out); (case side5 => exact fun k_ e_ => (HO_312001.out.1 k_ e_.symm).1.1.2.2.1); rintro e w66 ⟨rfl, hy0, hy1, hb, hkp⟩; refine ⟨_, rfl, ?_⟩; replace HO_305000 := Aside0.mk (Kd.R_mono (ok' := fun k_ => some k_ ≠ (.slice Ao24 t300.length co24 : Value).ownBlock ∧ some k_ ≠ (.slice Ao28 t305.length co28 : Value).ownBlock ∧ some k_ ≠ (.slice Ao32 t308.length co32 : Value).ownBlock ∧ some k_ ≠ (.slice Ao35 t312.length co35 : Value).ownBlock ∧ some k_ ≠ (.slice Ao40 t315.length co40 : Value).ownBlock ∧ some k_ ≠ (.slice Ao59 t321.length co59 : Value).ownBlock ∧ some k_ ≠ (.slice Ao60 t324.length co60 : Value).ownBlock) (Kd.R_keptB (HO_305000.out) hkp (fun k_ hk_ hs_ => Or.elim hs_ (fun e_ => (hk_.1.1.2.1) e_) (fun e_ => (hk_.1.1.2.2.1) e_))) (fun k_ hk_ => ⟨hk_.1.1.1.1, hk_.1.1.1.2.1, hk_.1.1.1.2.2.1, hk_.1.1.1.2.2.2.1, hk_.1.1.1.2.2.2.2, hk_.1.1.2, hk_.1.2⟩)); replace HO_305001 := Aside0.mk (Kd.R_mono (ok' := fun k_ => some k_ ≠ (.slice Ao21 t297.length co21 : Value).ownBlock ∧ some k_ ≠ (.slice Ao28 t305.length co28 : Value).ownBlock ∧ some k_ ≠ (.slice Ao32 t308.length co32 : Value).ownBlock ∧ some k_ ≠ (.slice Ao35 t312.length co35 : Value).ownBlock ∧ some k_ ≠ (.slice Ao40 t315.length co40 : Value).ownBlock ∧ some k_ ≠ (.slice Ao59 t321.length co59 : Value).ownBlock ∧ some k_ ≠ (.slice Ao60 t324.length co60 : Value).ownBlock) (Kd.R_keptB (HO_305001.out) hkp (fun k_ hk_ hs_ => Or.elim hs_ (fun e_ => (hk_.1.1.2.1) e_) (fun e_ => (hk_.1.1.2.2.1) e_))) (fun k_ hk_ => ⟨hk_.1.1.1.1, hk_.1.1.1.2.1, hk_.1.1.1.2.2.1, hk_.1.1.1.2.2.2.1, hk_.1.1.1.2.2.2.2, hk_.1.1.2, hk_.1.2⟩)); replace HO_320000 := Aside0.mk (Kd.R_mono (ok' := fun k_ => some k_ ≠ (.slice Ao21 t297.length co21 : Value).ownBlock ∧ some k_ ≠ (.slice Ao24 t300.length co24 : Value).ownBlock ∧ some k_ ≠ (.slice Ao28 t305.length co28 : Value).ownBlock ∧ some k_ ≠ (.slice Ao32 t308.length co32 : Value).ownBlock ∧ some k_ ≠ (.slice Ao40 t315.length co40 : Value).ownBlock ∧ some k_ ≠ (.slice Ao59 t321.length co59 : Value).ownBlock ∧ some k_ ≠ (.slice Ao60 t324.length co60 : Value).ownBlock) (Kd.R_keptB (HO_320000.out) hkp (fun k_ hk_ hs_ => Or.elim hs_ (fun e_ => (hk_.1.1.2.2.1) e_) (fun e_ => (hk_.1.1.2.2.2.1) e_))) (fun k_ hk_ => ⟨hk_.1.1.1.1, hk_.1.1.1.2.1, hk_.1.1.1.2.2.1, hk_.1.1.1.2.2.2.1, hk_.1.1.1.2.2.2.2, hk_.1.1.2, hk_.1.2⟩)); replace HO_320001 := Aside0.mk (Kd.R_mono (ok' := fun k_ => some k_ ≠ (.slice Ao21 t297.length co21 : Value).ownBlock ∧ some k_ ≠ (.slice Ao24 t300.length co24 : Value).ownBlock ∧ some k_ ≠ (.slice Ao28 t305.length co28 : Value).ownBlock ∧ some k_ ≠ (.slice Ao32 t308.length co32 : Value).ownBlock ∧ some k_ ≠ (.slice Ao35 t312.length co35 : Value).ownBlock ∧ some k_ ≠ (.slice Ao59 t321.length co59 : Value).ownBlock ∧ some k_ ≠ (.slice Ao60 t324.length co60 : Value).ownBlock) (Kd.R_keptB (HO_320001.out) hkp (fun k_ hk_ hs_ => Or.elim hs_ (fun e_ => (hk_.1.1.2.2.1) e_) (fun e_ => (hk_.1.1.2.2.2.1) e_))) (fun k_ hk_ => ⟨hk_.1.1.1.1, hk_.1.1.1.2.1, hk_.1.1.1.2.2.1, hk_.1.1.1.2.2.2.1, hk_.1.1.1.2.2.2.2, hk_.1.1.2, hk_.1.2⟩)); replace BK289 := Aside0.mk (blk_kept (kU BK289.out) hkp (fun hs_ => Or.elim hs_ (fun e_ => (fun e_ => (Kd.R_ne HO_312000.out BK289.out (by decide)) e_) e_) (fun e_ => (fun e_ => (Kd.R_ne HO_312001.out BK289.out (by decide)) e_) e_))); replace BK304 := Aside0.mk (blk_kept (kU BK304.out) hkp (fun hs_ => Or.elim hs_ (fun e_ => (fun e_ => (Kd.R_ne HO_312000.out BK304.out (by decide)) e_) e_) (fun e_ => (fun e_ => (Kd.R_ne HO_312001.out BK304.out (by decide)) e_) e_))); replace BK311 := Aside0.mk (blk_kept (kU BK311.out) hkp (fun hs_ => Or.elim hs_ (fun e_ => (fun e_ => (Kd.R_ne HO_312000.out BK311.out (by decide)) e_) e_) (fun e_ => (fun e_ => (Kd.R_ne HO_312001.out BK311.out (by decide)) e_) e_))); replace BK319 := Aside0.mk (blk_kept (kU BK319.out) hkp (fun hs_ => Or.elim hs_ (fun e_ => (fun e_ => (Kd.R_ne HO_312000.out BK319.out (by decide)) e_) e_) (fun e_ => (fun e_ => (Kd.R_ne HO_312001.out BK319.out (by decide)) e_) e_))); replace HO_312000 := Aside0.mk (Kd.R_reok rfl hy0 (fun k_ e_ => HO_312000.out.1 k_ e_)); replace HO_312001 := Aside0.mk (Kd.R_reok rfl hy1 (fun k_ e_ => HO_312001.out.1 k_ e_)); replace HO323 := Aside0.mk (Kd.R_mono (ok' := fun k_ => some k_ ≠ (.slice Ao21 t297.length co21 : Value).ownBlock ∧ some k_ ≠ (.slice Ao24 t300.length co24 : Value).ownBlock ∧ some k_ ≠ (.slice Ao28 t305.length co28 : Value).ownBlock ∧ some k_ ≠ (.slice Ao32 t308.length co32 : Value).ownBlock ∧ some k_ ≠ (.slice Ao35 t312.length co35 : Value).ownBlock ∧ some k_ ≠ (.slice Ao40 t315.length co40 : Value).ownBlock ∧ some k_ ≠ (.slice Ao60 t324.length co60 : Value).ownBlock) (Kd.R_keptB (HO323.out) hkp (fun k_ hk_ hs_ => Or.elim hs_ (fun e_ => (hk_.1.1.1.2) e_) (fun e_ => (hk_.1.1.2) e_))) (fun k_ hk_ => ⟨hk_.1.1.1.1.1.1.2, hk_.1.1.1.1.1.2, hk_.1.1.1.1.2, hk_.1.1.1.2, hk_.1.1.2, hk_.1.2, hk_.1.1.1.1.1.1.1⟩)); replace HO326 := Aside0.mk (Kd.R_mono (ok' := fun k_ => some k_ ≠ (.slice Ao21 t297.length co21 : Value).ownBlock ∧ some k_ ≠ (.slice Ao24 t300.length co24 : Value).ownBlock ∧ some k_ ≠ (.slice Ao28 t305.length co28 : Value).ownBlock ∧ some k_ ≠ (.slice Ao32 t308.length co32 : Value).ownBlock ∧ some k_ ≠ (.slice Ao35 t312.length co35 : Value).ownBlock ∧ some k_ ≠ (.slice Ao40 t315.length co40 : Value).ownBlock ∧ some k_ ≠ (.slice Ao59 t321.length co59 : Value).ownBlock) (Kd.R_keptB (HO326.out) hkp (fun k_ hk_ hs_ => Or.elim hs_ (fun e_ => (hk_.1.1.1.2) e_) (fun e_ => (hk_.1.1.2) e_))) (fun k_ hk_ => ⟨hk_.1.1.1.1.1.1.2, hk_.1.1.1.1.1.2, hk_.1.1.1.1.2, hk_.1.1.1.2, hk_.1.1.2, hk_.1.2, hk_.1.1.1.1.1.1.1⟩)); replace HB := Aside0.mk (hb); (try clear hb); (try clear hkp); (try clear hy0); (try clear hy1)))
      (try simp only [Act.put, List.setIfInBounds_toArray, List.set_cons_zero, List.set_cons_succ])
      go_cut [61] (fun v61 wc => ∃ (kq : Nat) (x61_55 : Bool), v61 = .bool x61_55 ∧ Aside0 (laws_FnExactTurn.j1 kq t303 x61_55 l0_0 l0_1 t297 t300 t312 t315 = some r) ∧ Aside0 (kq ≤ kj10) ∧ Aside0 (Kd.R (Kd.int .i64) 3 wc w.heap.size (fun k_ => some k_ ≠ ((.slice Ao24 t300.length co24) : Value).ownBlock ∧ some k_ ≠ ((.slice Ao28 t305.length co28) : Value).ownBlock ∧ some k_ ≠ ((.slice Ao32 t308.length co32) : Value).ownBlock ∧ some k_ ≠ ((.slice Ao35 t312.length co35) : Value).ownBlock ∧ some k_ ≠ ((.slice Ao40 t315.length co40) : Value).ownBlock) (.slice Ao21 t297.length co21) t297) ∧ Aside0 (Kd.R (Kd.int .i64) 3 wc w.heap.size (fun k_ => some k_ ≠ ((.slice Ao21 t297.length co21) : Value).ownBlock ∧ some k_ ≠ ((.slice Ao28 t305.length co28) : Value).ownBlock ∧ some k_ ≠ ((.slice Ao32 t308.length co32) : Value).ownBlock ∧ some k_ ≠ ((.slice Ao35 t312.length co35) : Value).ownBlock ∧ some k_ ≠ ((.slice Ao40 t315.length co40) : Value).ownBlock) (.slice Ao24 t300.length co24) t300) ∧ Aside0 (Kd.R (Kd.int .i64) 3 wc w.heap.size (fun k_ => some k_ ≠ ((.slice Ao21 t297.length co21) : Value).ownBlock ∧ some k_ ≠ ((.slice Ao24 t300.length co24) : Value).ownBlock ∧ some k_ ≠ ((.slice Ao32 t308.length co32) : Value).ownBlock ∧ some k_ ≠ ((.slice Ao35 t312.length co35) : Value).ownBlock ∧ some k_ ≠ ((.slice Ao40 t315.length co40) : Value).ownBlock) (.slice Ao28 t305.length co28) t329) ∧ Aside0 (Kd.R (Kd.int .i64) 3 wc w.heap.size (fun k_ => some k_ ≠ ((.slice Ao21 t297.length co21) : Value).ownBlock ∧ some k_ ≠ ((.slice Ao24 t300.length co24) : Value).ownBlock ∧ some k_ ≠ ((.slice Ao28 t305.length co28) : Value).ownBlock ∧ some k_ ≠ ((.slice Ao35 t312.length co35) : Value).ownBlock ∧ some k_ ≠ ((.slice Ao40 t315.length co40) : Value).ownBlock) (.slice Ao32 t308.length co32) t330) ∧ Aside0 (Kd.R (Kd.int .i64) 3 wc w.heap.size (fun k_ => some k_ ≠ ((.slice Ao21 t297.length co21) : Value).ownBlock ∧ some k_ ≠ ((.slice Ao24 t300.length co24) : Value).ownBlock ∧ some k_ ≠ ((.slice Ao28 t305.length co28) : Value).ownBlock ∧ some k_ ≠ ((.slice Ao32 t308.length co32) : Value).ownBlock ∧ some k_ ≠ ((.slice Ao40 t315.length co40) : Value).ownBlock) (.slice Ao35 t312.length co35) t312) ∧ Aside0 (Kd.R (Kd.int .i64) 3 wc w.heap.size (fun k_ => some k_ ≠ ((.slice Ao21 t297.length co21) : Value).ownBlock ∧ some k_ ≠ ((.slice Ao24 t300.length co24) : Value).ownBlock ∧ some k_ ≠ ((.slice Ao28 t305.length co28) : Value).ownBlock ∧ some k_ ≠ ((.slice Ao32 t308.length co32) : Value).ownBlock ∧ some k_ ≠ ((.slice Ao35 t312.length co35) : Value).ownBlock) (.slice Ao40 t315.length co40) t315) ∧ Aside0 (wc.heap[gb289]? = some (.cells #[(.slice A0_0 l0_0.length c0_0), (.slice A0_1 l0_1.length c0_1)] 24 (0, 0))) ∧ Aside0 (wc.heap[gb304]? = some (.cells #[(.slice Ao21 t297.length co21), (.slice Ao24 t300.length co24)] 26 (0, 0))) ∧ Aside0 (wc.heap[gb311]? = some (.cells #[(.slice Ao28 t305.length co28), (.slice Ao32 t308.length co32)] 26 (0, 0))) ∧ Aside0 (wc.heap[gb319]? = some (.cells #[(.slice Ao35 t312.length co35), (.slice Ao40 t315.length co40)] 26 (0, 0))) ∧ Aside0 (Below w.heap.size w wc))
      case first =>
       have H := HC56.out
       clear HC56
       by_cases c67 : t328 < 0
       ·
        rw [if_pos c67] at H
        have c67b0 : decide (t328 < 0) = true := decide_eq_true c67
        clear c67
        (first | rw [c67b0] | (simp only [i64_w, i32_w]; rw [c67b0]) | rw [c67b1] | (simp only [i64_w, i32_w]; rw [c67b1]) | skip)
        have hz_ : ∀ kz, laws_FnExactTurn.j1 kz t303 true l0_0 l0_1 t297 t300 t312 t315 = some r → r = false := by intro kz hz; cases kz with | zero => exact absurd hz (by simp [laws_FnExactTurn.j1]) | succ kz => simp only [laws_FnExactTurn.j1] at hz; first | (rw [if_pos rfl] at hz; exact (Option.some.inj hz).symm) | (simp at hz; exact hz.symm) | (simp at hz; exact hz)
        exact absurd (HT.out.symm.trans (hz_ _ H)) (by decide)
       ·
        rw [if_neg c67] at H
        have c67b0 : decide (t328 < 0) = false := decide_eq_false c67
        clear c67
        (first | rw [c67b0] | (simp only [i64_w, i32_w]; rw [c67b0]) | rw [c67b1] | (simp only [i64_w, i32_w]; rw [c67b1]) | skip)
        replace H := Option.bind_eq_some_iff.mp H
        obtain ⟨t331, A680, H⟩ := H
        replace H : (if t331 = true then (laws_FnExactTurn.j1 kj10 t303 (t318 != t303) l0_0 l0_1 t297 t300 t312 t315) else (laws_FnExactTurn.j1 kj10 t303 true l0_0 l0_1 t297 t300 t312 t315)) = some r := H
        have A68 := Aside0.mk A680
        clear A680
        by_cases c69 : t331 = true
        ·
         subst c69
         have H1 : (laws_FnExactTurn.j1 kj10 t303 (t318 != t303) l0_0 l0_1 t297 t300 t312 t315) = some r := by rw [if_pos rfl] at H; exact H
         clear H
         have H := H1
         clear H1
         have H' := Aside0.mk H
         clear H
         have hnb70 := NB319_289.out
         have hnc70 := NB289_319.out
         have hnb71 := NB319_304.out
         have hnc71 := NB304_319.out
         have hnb72 := NB319_311.out
         have hnc72 := NB311_319.out
         have hcz73_0 : w66.cell? ⟨gb319, 0, none⟩ = some (.slice Ao35 t312.length co35) := (blk_cell BK319.out 0).trans rfl
         have hcz73_1 : w66.cell? ⟨gb319, 1, none⟩ = some (.slice Ao40 t315.length co40) := (blk_cell BK319.out 1).trans rfl
         have hfz73_0 := blk_frozen BK319.out 0
         have hfz73_1 := blk_frozen BK319.out 1
         have hnb74 := NB304_289.out
         have hnc74 := NB289_304.out
         have hnb75 := NB304_311.out
         have hnc75 := NB311_304.out
         have hcz76_0 : w66.cell? ⟨gb304, 0, none⟩ = some (.slice Ao21 t297.length co21) := (blk_cell BK304.out 0).trans rfl
         have hcz76_1 : w66.cell? ⟨gb304, 1, none⟩ = some (.slice Ao24 t300.length co24) := (blk_cell BK304.out 1).trans rfl
         have hfz76_0 := blk_frozen BK304.out 0
         have hfz76_1 := blk_frozen BK304.out 1
         go_wp2_with (first | (go_at_call 19; (repeat rw [i64_w]); (with_reducible refine (laws_eqArray.calls kj10 _ _ t312 _ _ t315 _ _ t297 _ _ t300 true _ ?side1 ?side2 ?side3 ?side4 ?side5 ?side6 ?side7 ?side8 A68.out).mono ?_); (case side1 => exact cU (Kd.R_reads' HO_320000.out).2.2); (case side2 => exact (Kd.R_reads' HO_320000.out).2.1); (case side3 => exact cU (Kd.R_reads' HO_320001.out).2.2); (case side4 => exact (Kd.R_reads' HO_320001.out).2.1); (case side5 => exact cU (Kd.R_reads' HO_305000.out).2.2); (case side6 => exact (Kd.R_reads' HO_305000.out).2.1); (case side7 => exact cU (Kd.R_reads' HO_305001.out).2.2); (case side8 => exact (Kd.R_reads' HO_305001.out).2.1); rintro e w77 ⟨rfl, hb⟩; replace HO_305000 := Aside0.mk (Kd.R_below (RU HO_305000.out) hb); replace HO_305001 := Aside0.mk (Kd.R_below (RU HO_305001.out) hb); replace HO_312000 := Aside0.mk (Kd.R_below (RU HO_312000.out) hb); replace HO_312001 := Aside0.mk (Kd.R_below (RU HO_312001.out) hb); replace HO_320000 := Aside0.mk (Kd.R_below (RU HO_320000.out) hb); replace HO_320001 := Aside0.mk (Kd.R_below (RU HO_320001.out) hb); replace HO323 := Aside0.mk (Kd.R_below (RU HO323.out) hb); replace HO326 := Aside0.mk (Kd.R_below (RU HO326.out) hb); replace BK289 := Aside0.mk (kB BK289.out hb); replace BK304 := Aside0.mk (kB BK304.out hb); replace BK311 := Aside0.mk (kB BK311.out hb); replace BK319 := Aside0.mk (kB BK319.out hb); replace HB := Aside0.mk (below_step (bS4 HB.out GE289.out GE304.out GE311.out GE319.out) hb); (try clear hb); (try clear hb2); (try clear hk); (try clear hi)))
         go_meet
         case rel => exact ⟨_, ((t318 != t303)), (by first | rfl | (simp; done) | (simp [*]; done)), H', ⟨by have := HJ10.out; first | omega | exact Nat.le_refl _⟩, ⟨by refine RU ?_; exact Kd.R_mono HO_305000.out (fun _ hk => ⟨hk.1, ⟨hk.2.1, ⟨hk.2.2.1, ⟨hk.2.2.2.1, hk.2.2.2.2.1⟩⟩⟩⟩)⟩, ⟨by refine RU ?_; exact Kd.R_mono HO_305001.out (fun _ hk => ⟨hk.1, ⟨hk.2.1, ⟨hk.2.2.1, ⟨hk.2.2.2.1, hk.2.2.2.2.1⟩⟩⟩⟩)⟩, ⟨by refine RU ?_; exact Kd.R_mono HO_312000.out (fun _ hk => ⟨hk.1.1.1, ⟨hk.1.1.2.1, ⟨hk.1.1.2.2.1, ⟨hk.1.1.2.2.2.1, hk.1.1.2.2.2.2⟩⟩⟩⟩)⟩, ⟨by refine RU ?_; exact Kd.R_mono HO_312001.out (fun _ hk => ⟨hk.1.1.1, ⟨hk.1.1.2.1, ⟨hk.1.1.2.2.1, ⟨hk.1.1.2.2.2.1, hk.1.1.2.2.2.2⟩⟩⟩⟩)⟩, ⟨by refine RU ?_; exact Kd.R_mono HO_320000.out (fun _ hk => ⟨hk.1, ⟨hk.2.1, ⟨hk.2.2.1, ⟨hk.2.2.2.1, hk.2.2.2.2.1⟩⟩⟩⟩)⟩, ⟨by refine RU ?_; exact Kd.R_mono HO_320001.out (fun _ hk => ⟨hk.1, ⟨hk.2.1, ⟨hk.2.2.1, ⟨hk.2.2.2.1, hk.2.2.2.2.1⟩⟩⟩⟩)⟩, ⟨by refine kU ?_; exact BK289.out⟩, ⟨by refine kU ?_; exact BK304.out⟩, ⟨by refine kU ?_; exact BK311.out⟩, ⟨by refine kU ?_; exact BK319.out⟩, ⟨by exact bS4 HB.out GE289.out GE304.out GE311.out GE319.out⟩⟩
        ·
         replace c69 := Bool.eq_false_iff.mpr c69
         subst c69
         have H1 : (laws_FnExactTurn.j1 kj10 t303 true l0_0 l0_1 t297 t300 t312 t315) = some r := by rw [if_neg (show ¬ (false = true) by decide)] at H; exact H
         clear H
         have H := H1
         clear H1
         have hz_ : ∀ kz, laws_FnExactTurn.j1 kz t303 true l0_0 l0_1 t297 t300 t312 t315 = some r → r = false := by intro kz hz; cases kz with | zero => exact absurd hz (by simp [laws_FnExactTurn.j1]) | succ kz => simp only [laws_FnExactTurn.j1] at hz; first | (rw [if_pos rfl] at hz; exact (Option.some.inj hz).symm) | (simp at hz; exact hz.symm) | (simp at hz; exact hz)
         exact absurd (HT.out.symm.trans (hz_ _ H)) (by decide)
      case rest =>
       clear HC56
       try clear c1
       try clear c2
       try clear p2
       try clear c3
       try clear c3b0
       try clear c4
       try clear c5
       try clear c6
       try clear c7
       try clear c15
       try clear c17
       try clear c19
       try clear c20
       try clear c22
       try clear c29
       try clear c30
       try clear c36
       try clear c37
       try clear c38
       try clear c42
       try clear c43
       try clear c44
       try clear c45
       try clear c47
       try clear c48
       try clear c51
       try clear c54
       try clear c62
       try clear c63
       try clear c64
       try clear c67
       try clear c67b0
       try clear c69
       try clear c70
       try clear c71
       try clear c72
       try clear c74
       try clear c75
       try clear hcz13_0
       try clear hcz13_1
       try clear hcz15_0
       try clear hcz15_1
       try clear hcz23_0
       try clear hcz23_1
       try clear hcz25_0
       try clear hcz25_1
       try clear hcz31_0
       try clear hcz31_1
       try clear hcz39_0
       try clear hcz39_1
       try clear hcz46_0
       try clear hcz46_1
       try clear hcz49_0
       try clear hcz49_1
       try clear hcz5_0
       try clear hcz5_1
       try clear hcz65_0
       try clear hcz65_1
       try clear hcz73_0
       try clear hcz73_1
       try clear hcz76_0
       try clear hcz76_1
       try clear hfz13_0
       try clear hfz13_1
       try clear hfz15_0
       try clear hfz15_1
       try clear hfz23_0
       try clear hfz23_1
       try clear hfz25_0
       try clear hfz25_1
       try clear hfz31_0
       try clear hfz31_1
       try clear hfz39_0
       try clear hfz39_1
       try clear hfz46_0
       try clear hfz46_1
       try clear hfz49_0
       try clear hfz49_1
       try clear hfz5_0
       try clear hfz5_1
       try clear hfz65_0
       try clear hfz65_1
       try clear hfz73_0
       try clear hfz73_1
       try clear hfz76_0
       try clear hfz76_1
       try clear p2
       obtain ⟨kq, x61_55, rfl, HA, HJ55, HO_305000, HO_305001, HO_312000, HO_312001, HO_320000, HO_320001, BK289, BK304, BK311, BK319, HB⟩ := hcut
       have hl312000_55 := (Kd.R_reads' HO_312000.out).1
       rw [hl312000_55] at HO_312000
       (try simp only [hl312000_55])
       (try simp only [hl312000_55] at BK289)
       (try simp only [hl312000_55] at BK304)
       (try simp only [hl312000_55] at BK311)
       (try simp only [hl312000_55] at BK319)
       (try simp only [hl312000_55] at HO_305000)
       (try simp only [hl312000_55] at HO_305001)
       (try simp only [hl312000_55] at HO_312001)
       (try simp only [hl312000_55] at HO_320000)
       (try simp only [hl312000_55] at HO_320001)
       have hl312001_55 := (Kd.R_reads' HO_312001.out).1
       rw [hl312001_55] at HO_312001
       (try simp only [hl312001_55])
       (try simp only [hl312001_55] at BK289)
       (try simp only [hl312001_55] at BK304)
       (try simp only [hl312001_55] at BK311)
       (try simp only [hl312001_55] at BK319)
       (try simp only [hl312001_55] at HO_305000)
       (try simp only [hl312001_55] at HO_305001)
       (try simp only [hl312001_55] at HO_312000)
       (try simp only [hl312001_55] at HO_320000)
       (try simp only [hl312001_55] at HO_320001)
       cases kq with
       | zero => exact absurd HA.out (by simp [laws_FnExactTurn.j1])
       | succ kj55 =>
        have H := HA.out
        clear HA
        simp only [laws_FnExactTurn.j1] at H
        by_cases c78 : x61_55 = true
        ·
         subst c78
         have H1 : (some false) = some r := by rw [if_pos rfl] at H; exact H
         clear H
         have H := H1
         clear H1
         obtain rfl := Option.some.inj H
         exact absurd HT.out (by decide)
        ·
         replace c78 := Bool.eq_false_iff.mpr c78
         subst c78
         have H1 : ((laws_markArray.f kj55 t312 t315 1).bind fun bt332 => ((laws_heldArray.f kj55 bt332.2.1 bt332.2.2 1).bind fun t335 => (if t335 < 0 then (some false) else (if t335 = bt332.1 then ((laws_toArray.f kj55 l0_0 l0_1).bind fun bt336 => ((impl_Turn.f kj55 bt336.1 bt336.2).bind fun bt342 => ((laws_eqArray.f kj55 bt342.1 bt342.2.1 t297 t300).bind fun t350 => (if t350 = true then (laws_FnExactTurn.j2 kj55 bt332.1 (bt342.2.2 != t303) bt332.2.1 bt332.2.2) else (laws_FnExactTurn.j2 kj55 bt332.1 true bt332.2.1 bt332.2.2))))) else (some false))))) = some r := by rw [if_neg (show ¬ (false = true) by decide)] at H; exact H
         clear H
         have H := H1
         clear H1
         replace H := Option.bind_eq_some_iff.mp H
         obtain ⟨⟨t332, t333, t334⟩, A790, H⟩ := H
         replace H : ((laws_heldArray.f kj55 t333 t334 1).bind fun t335 => (if t335 < 0 then (some false) else (if t335 = t332 then ((laws_toArray.f kj55 l0_0 l0_1).bind fun bt336 => ((impl_Turn.f kj55 bt336.1 bt336.2).bind fun bt342 => ((laws_eqArray.f kj55 bt342.1 bt342.2.1 t297 t300).bind fun t350 => (if t350 = true then (laws_FnExactTurn.j2 kj55 t332 (bt342.2.2 != t303) t333 t334) else (laws_FnExactTurn.j2 kj55 t332 true t333 t334))))) else (some false)))) = some r := H
         have A79 := Aside0.mk A790
         clear A790
         replace H := Option.bind_eq_some_iff.mp H
         obtain ⟨t335, A800, H⟩ := H
         replace H : (if t335 < 0 then (some false) else (if t335 = t332 then ((laws_toArray.f kj55 l0_0 l0_1).bind fun bt336 => ((impl_Turn.f kj55 bt336.1 bt336.2).bind fun bt342 => ((laws_eqArray.f kj55 bt342.1 bt342.2.1 t297 t300).bind fun t350 => (if t350 = true then (laws_FnExactTurn.j2 kj55 t332 (bt342.2.2 != t303) t333 t334) else (laws_FnExactTurn.j2 kj55 t332 true t333 t334))))) else (some false))) = some r := H
         have A80 := Aside0.mk A800
         clear A800
         by_cases c81 : t335 < 0
         ·
          rw [if_pos c81] at H
          have c81b0 : decide (t335 < 0) = true := decide_eq_true c81
          clear c81
          obtain rfl := Option.some.inj H
          exact absurd HT.out (by decide)
         ·
          rw [if_neg c81] at H
          have c81b0 : decide (t335 < 0) = false := decide_eq_false c81
          clear c81
          by_cases c82 : t335 = t332
          ·
           rw [if_pos c82] at H
           have c82b0 : (t335 == t332) = true := beq_iff_eq.mpr c82
           have c82b1 : (t335 != t332) = false := bne_eq_false_iff_eq.mpr c82
           clear c82
           replace H := Option.bind_eq_some_iff.mp H
           obtain ⟨⟨t336, t339⟩, A830, H⟩ := H
           replace H : ((impl_Turn.f kj55 t336 t339).bind fun bt342 => ((laws_eqArray.f kj55 bt342.1 bt342.2.1 t297 t300).bind fun t350 => (if t350 = true then (laws_FnExactTurn.j2 kj55 t332 (bt342.2.2 != t303) t333 t334) else (laws_FnExactTurn.j2 kj55 t332 true t333 t334)))) = some r := H
           have A83 := Aside0.mk A830
           clear A830
           replace H := Option.bind_eq_some_iff.mp H
           obtain ⟨⟨t342, t345, t348⟩, A840, H⟩ := H
           replace H : ((laws_eqArray.f kj55 t342 t345 t297 t300).bind fun t350 => (if t350 = true then (laws_FnExactTurn.j2 kj55 t332 (t348 != t303) t333 t334) else (laws_FnExactTurn.j2 kj55 t332 true t333 t334))) = some r := H
           have A84 := Aside0.mk A840
           clear A840
           have HC85 := Aside0.mk H
           clear H
           have hnb86 := NB319_289.out
           have hnc86 := NB289_319.out
           have hnb87 := NB319_304.out
           have hnc87 := NB304_319.out
           have hnb88 := NB319_311.out
           have hnc88 := NB311_319.out
           have hcz89_0 : wc.cell? ⟨gb319, 0, none⟩ = some (.slice Ao35 t312.length co35) := (blk_cell BK319.out 0).trans rfl
           have hcz89_1 : wc.cell? ⟨gb319, 1, none⟩ = some (.slice Ao40 t315.length co40) := (blk_cell BK319.out 1).trans rfl
           have hfz89_0 := blk_frozen BK319.out 0
           have hfz89_1 := blk_frozen BK319.out 1
           go_upto_region 25 with (first | ((with_reducible refine gate_callee (f := 20) rfl ?_); refine goesL_ (some 64) rfl rfl Try.func20 (by kernel_rfl) rfl #[.agg #[.slice Ao35 t312.length co35, .slice Ao40 t315.length co40], .int .i64 1] rfl lU ?_; (with_reducible refine (laws_markArray.calls kj55 (fun k_ => some k_ = (.slice Ao35 t312.length co35 : Value).ownBlock) (.slice Ao35 t312.length co35) t312 (fun k_ => some k_ = (.slice Ao40 t315.length co40 : Value).ownBlock) (.slice Ao40 t315.length co40) t315 1 t332 t333 t334 w _ ?side1 ?side2 ?side3 ?side4 ?side5 A79.out).mono ?_); (case side1 => exact bS4 HB.out GE289.out GE304.out GE311.out GE319.out); (case side2 => exact Kd.R_tight rfl HO_320000.out); (case side3 => exact fun k_ e_ => (HO_320000.out.1 k_ e_.symm).2.2.2.2); (case side4 => exact Kd.R_tight rfl HO_320001.out); (case side5 => exact fun k_ e_ => (HO_320001.out.1 k_ e_.symm).2.2.2.2); rintro e w90 ⟨rfl, hy0, hy1, hb, hkp⟩; refine ⟨_, rfl, ?_⟩; replace HO_305000 := Aside0.mk (Kd.R_mono (ok' := fun k_ => some k_ ≠ (.slice Ao24 t300.length co24 : Value).ownBlock ∧ some k_ ≠ (.slice Ao28 t329.length co28 : Value).ownBlock ∧ some k_ ≠ (.slice Ao32 t330.length co32 : Value).ownBlock ∧ some k_ ≠ (.slice Ao35 t312.length co35 : Value).ownBlock ∧ some k_ ≠ (.slice Ao40 t315.length co40 : Value).ownBlock) (Kd.R_keptB (HO_305000.out) hkp (fun k_ hk_ hs_ => Or.elim hs_ (fun e_ => (hk_.2.2.2.1) e_) (fun e_ => (hk_.2.2.2.2) e_))) (fun k_ hk_ => ⟨hk_.1.1, hk_.1.2.1, hk_.1.2.2.1, hk_.1.2.2.2.1, hk_.1.2.2.2.2⟩)); replace HO_305001 := Aside0.mk (Kd.R_mono (ok' := fun k_ => some k_ ≠ (.slice Ao21 t297.length co21 : Value).ownBlock ∧ some k_ ≠ (.slice Ao28 t329.length co28 : Value).ownBlock ∧ some k_ ≠ (.slice Ao32 t330.length co32 : Value).ownBlock ∧ some k_ ≠ (.slice Ao35 t312.length co35 : Value).ownBlock ∧ some k_ ≠ (.slice Ao40 t315.length co40 : Value).ownBlock) (Kd.R_keptB (HO_305001.out) hkp (fun k_ hk_ hs_ => Or.elim hs_ (fun e_ => (hk_.2.2.2.1) e_) (fun e_ => (hk_.2.2.2.2) e_))) (fun k_ hk_ => ⟨hk_.1.1, hk_.1.2.1, hk_.1.2.2.1, hk_.1.2.2.2.1, hk_.1.2.2.2.2⟩)); replace HO_312000 := Aside0.mk (Kd.R_mono (ok' := fun k_ => some k_ ≠ (.slice Ao21 t297.length co21 : Value).ownBlock ∧ some k_ ≠ (.slice Ao24 t300.length co24 : Value).ownBlock ∧ some k_ ≠ (.slice Ao32 t330.length co32 : Value).ownBlock ∧ some k_ ≠ (.slice Ao35 t312.length co35 : Value).ownBlock ∧ some k_ ≠ (.slice Ao40 t315.length co40 : Value).ownBlock) (Kd.R_keptB (HO_312000.out) hkp (fun k_ hk_ hs_ => Or.elim hs_ (fun e_ => (hk_.2.2.2.1) e_) (fun e_ => (hk_.2.2.2.2) e_))) (fun k_ hk_ => ⟨hk_.1.1, hk_.1.2.1, hk_.1.2.2.1, hk_.1.2.2.2.1, hk_.1.2.2.2.2⟩)); replace HO_312001 := Aside0.mk (Kd.R_mono (ok' := fun k_ => some k_ ≠ (.slice Ao21 t297.length co21 : Value).ownBlock ∧ some k_ ≠ (.slice Ao24 t300.length co24 : Value).ownBlock ∧ some k_ ≠ (.slice Ao28 t329.length co28 : Value).ownBlock ∧ some k_ ≠ (.slice Ao35 t312.length co35 : Value).ownBlock ∧ some k_ ≠ (.slice Ao40 t315.length co40 : Value).ownBlock) (Kd.R_keptB (HO_312001.out) hkp (fun k_ hk_ hs_ => Or.elim hs_ (fun e_ => (hk_.2.2.2.1) e_) (fun e_ => (hk_.2.2.2.2) e_))) (fun k_ hk_ => ⟨hk_.1.1, hk_.1.2.1, hk_.1.2.2.1, hk_.1.2.2.2.1, hk_.1.2.2.2.2⟩)); replace BK289 := Aside0.mk (blk_kept (kU BK289.out) hkp (fun hs_ => Or.elim hs_ (fun e_ => (fun e_ => (Kd.R_ne HO_320000.out BK289.out (by decide)) e_) e_) (fun e_ => (fun e_ => (Kd.R_ne HO_320001.out BK289.out (by decide)) e_) e_))); replace BK304 := Aside0.mk (blk_kept (kU BK304.out) hkp (fun hs_ => Or.elim hs_ (fun e_ => (fun e_ => (Kd.R_ne HO_320000.out BK304.out (by decide)) e_) e_) (fun e_ => (fun e_ => (Kd.R_ne HO_320001.out BK304.out (by decide)) e_) e_))); replace BK311 := Aside0.mk (blk_kept (kU BK311.out) hkp (fun hs_ => Or.elim hs_ (fun e_ => (fun e_ => (Kd.R_ne HO_320000.out BK311.out (by decide)) e_) e_) (fun e_ => (fun e_ => (Kd.R_ne HO_320001.out BK311.out (by decide)) e_) e_))); replace BK319 := Aside0.mk (blk_kept (kU BK319.out) hkp (fun hs_ => Or.elim hs_ (fun e_ => (fun e_ => (Kd.R_ne HO_320000.out BK319.out (by decide)) e_) e_) (fun e_ => (fun e_ => (Kd.R_ne HO_320001.out BK319.out (by decide)) e_) e_))); replace HO_320000 := Aside0.mk (Kd.R_reok rfl hy0 (fun k_ e_ => HO_320000.out.1 k_ e_)); replace HO_320001 := Aside0.mk (Kd.R_reok rfl hy1 (fun k_ e_ => HO_320001.out.1 k_ e_)); replace HB := Aside0.mk (hb); (try clear hb); (try clear hkp); (try clear hy0); (try clear hy1); have hcz91_0 : w90.cell? ⟨gb319, 0, none⟩ = some (.slice Ao35 t312.length co35) := (blk_cell BK319.out 0).trans rfl; have hcz91_1 : w90.cell? ⟨gb319, 1, none⟩ = some (.slice Ao40 t315.length co40) := (blk_cell BK319.out 1).trans rfl; have hfz91_0 := blk_frozen BK319.out 0; have hfz91_1 := blk_frozen BK319.out 1) | ((with_reducible refine gate_callee (f := 21) rfl ?_); refine goesL_ (some 67) rfl rfl Try.func21 (by kernel_rfl) rfl #[.agg #[.slice Ao35 t333.length co35, .slice Ao40 t334.length co40], .int .i64 1] rfl (by (try simp only [List.map_toArray, List.map_cons, List.map_nil]); first | done | (rw [show t333.length = t312.length from (Kd.R_reads' HO_320000.out).1.symm, show t334.length = t315.length from (Kd.R_reads' HO_320001.out).1.symm] <;> rfl) | rfl | (simp only [List.length_drop, List.length_take]; rfl)) ?_; (with_reducible refine (laws_heldArray.calls kj55 _ _ t333 _ _ t334 1 t335 _ ?side1 ?side2 ?side3 ?side4 A80.out).mono ?_); (case side1 => exact cU (Kd.R_reads' HO_320000.out).2.2); (case side2 => rw [show t333.length = t312.length from (Kd.R_reads' HO_320000.out).1.symm]; exact (Kd.R_reads' HO_320000.out).2.1); (case side3 => exact cU (Kd.R_reads' HO_320001.out).2.2); (case side4 => rw [show t334.length = t315.length from (Kd.R_reads' HO_320001.out).1.symm]; exact (Kd.R_reads' HO_320001.out).2.1); rintro e w92 ⟨rfl, hb⟩; refine ⟨_, rfl, ?_⟩; replace HO_305000 := Aside0.mk (Kd.R_below (RU HO_305000.out) hb); replace HO_305001 := Aside0.mk (Kd.R_below (RU HO_305001.out) hb); replace HO_312000 := Aside0.mk (Kd.R_below (RU HO_312000.out) hb); replace HO_312001 := Aside0.mk (Kd.R_below (RU HO_312001.out) hb); replace HO_320000 := Aside0.mk (Kd.R_below (RU HO_320000.out) hb); replace HO_320001 := Aside0.mk (Kd.R_below (RU HO_320001.out) hb); replace BK289 := Aside0.mk (kB BK289.out hb); replace BK304 := Aside0.mk (kB BK304.out hb); replace BK311 := Aside0.mk (kB BK311.out hb); replace BK319 := Aside0.mk (kB BK319.out hb); replace HB := Aside0.mk (below_step (bS4 HB.out GE289.out GE304.out GE311.out GE319.out) hb); (try clear hb); (try clear hb2); (try clear hk); (try clear hi); have hnb93 := NB289_304.out; have hnc93 := NB304_289.out; have hnb94 := NB289_311.out; have hnc94 := NB311_289.out; have hcz95_0 : w92.cell? ⟨gb289, 0, none⟩ = some (.slice A0_0 l0_0.length c0_0) := (blk_cell BK289.out 0).trans rfl; have hcz95_1 : w92.cell? ⟨gb289, 1, none⟩ = some (.slice A0_1 l0_1.length c0_1) := (blk_cell BK289.out 1).trans rfl; have hfz95_0 := blk_frozen BK289.out 0; have hfz95_1 := blk_frozen BK289.out 1) | ((with_reducible refine gate_callee (f := 17) rfl ?_); refine goesL_ (some 75) rfl rfl Try.func17 (by kernel_rfl) rfl #[.agg #[.slice A0_0 l0_0.length c0_0, .slice A0_1 l0_1.length c0_1]] rfl lU ?_; (with_reducible refine (laws_toArray.calls kj55 _ _ l0_0 _ _ l0_1 t336 t339 _ ?side1 ?side2 ?side3 ?side4 A83.out).mono ?_); (case side1 => exact cU (Kd.C_below HR0_0.out HB.out)); (case side2 => exact HC0_0.out); (case side3 => exact cU (Kd.C_below HR0_1.out HB.out)); (case side4 => exact HC0_1.out); rintro e w96 ⟨v337, v340, rfl, ho0, ho1, hb⟩; refine ⟨_, rfl, ?_⟩; have HO338 := Aside0.mk (Kd.R_lower (Kd.R_new' (Kd.R_new' (Kd.R_new' (Kd.R_new' (Kd.R_new' (Kd.R_new' ho0 (Kd.R_lt (RU HO_305000.out))) (Kd.R_lt (RU HO_305001.out))) (Kd.R_lt (RU HO_312000.out))) (Kd.R_lt (RU HO_312001.out))) (Kd.R_lt (RU HO_320000.out))) (Kd.R_lt (RU HO_320001.out))) (below_size (bS4 HB.out GE289.out GE304.out GE311.out GE319.out))); have HO341 := Aside0.mk (Kd.R_lower (Kd.R_new' (Kd.R_new' (Kd.R_new' (Kd.R_new' (Kd.R_new' (Kd.R_new' ho1 (Kd.R_lt (RU HO_305000.out))) (Kd.R_lt (RU HO_305001.out))) (Kd.R_lt (RU HO_312000.out))) (Kd.R_lt (RU HO_312001.out))) (Kd.R_lt (RU HO_320000.out))) (Kd.R_lt (RU HO_320001.out))) (below_size (bS4 HB.out GE289.out GE304.out GE311.out GE319.out))); replace HO_305000 := Aside0.mk (Kd.R_mono (Kd.R_told (Kd.R_told (Kd.R_old (RU HO_305000.out) hb) (Kd.R_base ho0)) (Kd.R_base ho1)) (fun _ h_ => h_.1)); replace HO_305001 := Aside0.mk (Kd.R_mono (Kd.R_told (Kd.R_told (Kd.R_old (RU HO_305001.out) hb) (Kd.R_base ho0)) (Kd.R_base ho1)) (fun _ h_ => h_.1)); replace HO_312000 := Aside0.mk (Kd.R_mono (Kd.R_told (Kd.R_told (Kd.R_old (RU HO_312000.out) hb) (Kd.R_base ho0)) (Kd.R_base ho1)) (fun _ h_ => h_.1)); replace HO_312001 := Aside0.mk (Kd.R_mono (Kd.R_told (Kd.R_told (Kd.R_old (RU HO_312001.out) hb) (Kd.R_base ho0)) (Kd.R_base ho1)) (fun _ h_ => h_.1)); replace HO_320000 := Aside0.mk (Kd.R_mono (Kd.R_told (Kd.R_told (Kd.R_old (RU HO_320000.out) hb) (Kd.R_base ho0)) (Kd.R_base ho1)) (fun _ h_ => h_.1)); replace HO_320001 := Aside0.mk (Kd.R_mono (Kd.R_told (Kd.R_told (Kd.R_old (RU HO_320001.out) hb) (Kd.R_base ho0)) (Kd.R_base ho1)) (fun _ h_ => h_.1)); replace BK289 := Aside0.mk (kB BK289.out hb); replace BK304 := Aside0.mk (kB BK304.out hb); replace BK311 := Aside0.mk (kB BK311.out hb); replace BK319 := Aside0.mk (kB BK319.out hb); replace HB := Aside0.mk (below_step (bS4 HB.out GE289.out GE304.out GE311.out GE319.out) hb); (try clear hb); (try clear hb2); (try clear hk); (try clear hi); (try clear ho0); (try clear ho1); obtain ⟨Ao97, co97, eo97⟩ := Kd.R_slice HO338.out; subst eo97; obtain ⟨Ao98, co98, eo98⟩ := Kd.R_slice HO341.out; subst eo98) | ((with_reducible refine gate_callee (f := 30) rfl ?_); refine goesL_ (some 76) rfl rfl Try.func30 (by kernel_rfl) rfl #[.agg #[.slice Ao97 t336.length co97, .slice Ao98 t339.length co98]] rfl lU ?_; (with_reducible refine (impl_Turn.calls kj55 _ _ t336 _ _ t339 t342 t345 t348 _ ?side1 ?side2 ?side3 ?side4 A84.out).mono ?_); (case side1 => exact cU (Kd.R_reads' HO338.out).2.2); (case side2 => exact (Kd.R_reads' HO338.out).2.1); (case side3 => exact cU (Kd.R_reads' HO341.out).2.2); (case side4 => exact (Kd.R_reads' HO341.out).2.1); rintro e w99 ⟨v343, v346, rfl, ho0, ho1, hb⟩; refine ⟨_, rfl, ?_⟩; have HO344 := Aside0.mk (Kd.R_lower (Kd.R_new' (Kd.R_new' (Kd.R_new' (Kd.R_new' (Kd.R_new' (Kd.R_new' (Kd.R_new' (Kd.R_new' ho0 (Kd.R_lt (RU HO_305000.out))) (Kd.R_lt (RU HO_305001.out))) (Kd.R_lt (RU HO_312000.out))) (Kd.R_lt (RU HO_312001.out))) (Kd.R_lt (RU HO_320000.out))) (Kd.R_lt (RU HO_320001.out))) (Kd.R_lt (RU HO338.out))) (Kd.R_lt (RU HO341.out))) (below_size (bS4 HB.out GE289.out GE304.out GE311.out GE319.out))); have HO347 := Aside0.mk (Kd.R_lower (Kd.R_new' (Kd.R_new' (Kd.R_new' (Kd.R_new' (Kd.R_new' (Kd.R_new' (Kd.R_new' (Kd.R_new' ho1 (Kd.R_lt (RU HO_305000.out))) (Kd.R_lt (RU HO_305001.out))) (Kd.R_lt (RU HO_312000.out))) (Kd.R_lt (RU HO_312001.out))) (Kd.R_lt (RU HO_320000.out))) (Kd.R_lt (RU HO_320001.out))) (Kd.R_lt (RU HO338.out))) (Kd.R_lt (RU HO341.out))) (below_size (bS4 HB.out GE289.out GE304.out GE311.out GE319.out))); replace HO_305000 := Aside0.mk (Kd.R_mono (Kd.R_told (Kd.R_told (Kd.R_old (RU HO_305000.out) hb) (Kd.R_base ho0)) (Kd.R_base ho1)) (fun _ h_ => h_.1)); replace HO_305001 := Aside0.mk (Kd.R_mono (Kd.R_told (Kd.R_told (Kd.R_old (RU HO_305001.out) hb) (Kd.R_base ho0)) (Kd.R_base ho1)) (fun _ h_ => h_.1)); replace HO_312000 := Aside0.mk (Kd.R_mono (Kd.R_told (Kd.R_told (Kd.R_old (RU HO_312000.out) hb) (Kd.R_base ho0)) (Kd.R_base ho1)) (fun _ h_ => h_.1)); replace HO_312001 := Aside0.mk (Kd.R_mono (Kd.R_told (Kd.R_told (Kd.R_old (RU HO_312001.out) hb) (Kd.R_base ho0)) (Kd.R_base ho1)) (fun _ h_ => h_.1)); replace HO_320000 := Aside0.mk (Kd.R_mono (Kd.R_told (Kd.R_told (Kd.R_old (RU HO_320000.out) hb) (Kd.R_base ho0)) (Kd.R_base ho1)) (fun _ h_ => h_.1)); replace HO_320001 := Aside0.mk (Kd.R_mono (Kd.R_told (Kd.R_told (Kd.R_old (RU HO_320001.out) hb) (Kd.R_base ho0)) (Kd.R_base ho1)) (fun _ h_ => h_.1)); replace HO338 := Aside0.mk (Kd.R_mono (Kd.R_told (Kd.R_told (Kd.R_old (RU HO338.out) hb) (Kd.R_base ho0)) (Kd.R_base ho1)) (fun _ h_ => h_.1)); replace HO341 := Aside0.mk (Kd.R_mono (Kd.R_told (Kd.R_told (Kd.R_old (RU HO341.out) hb) (Kd.R_base ho0)) (Kd.R_base ho1)) (fun _ h_ => h_.1)); replace BK289 := Aside0.mk (kB BK289.out hb); replace BK304 := Aside0.mk (kB BK304.out hb); replace BK311 := Aside0.mk (kB BK311.out hb); replace BK319 := Aside0.mk (kB BK319.out hb); replace HB := Aside0.mk (below_step (bS4 HB.out GE289.out GE304.out GE311.out GE319.out) hb); (try clear hb); (try clear hb2); (try clear hk); (try clear hi); (try clear ho0); (try clear ho1)) | ((with_reducible refine gate_dst (N := 12) rfl ?_); refine box_event ?hg (N := 12) ?hd (cs := #[.slice none 0 0, .slice none 0 0]) (t := 26) ?hr ?_; (case hd => rfl); (case hg => rfl); (case hr => first | (go_simp; done) | (go_simp; rfl)); intro gb349 hg w100 hbox hb; replace HO_305000 := Aside0.mk (Kd.R_below (RU HO_305000.out) hb); replace HO_305001 := Aside0.mk (Kd.R_below (RU HO_305001.out) hb); replace HO_312000 := Aside0.mk (Kd.R_below (RU HO_312000.out) hb); replace HO_312001 := Aside0.mk (Kd.R_below (RU HO_312001.out) hb); replace HO_320000 := Aside0.mk (Kd.R_below (RU HO_320000.out) hb); replace HO_320001 := Aside0.mk (Kd.R_below (RU HO_320001.out) hb); replace HO338 := Aside0.mk (Kd.R_below (RU HO338.out) hb); replace HO341 := Aside0.mk (Kd.R_below (RU HO341.out) hb); replace HO344 := Aside0.mk (Kd.R_below (RU HO344.out) hb); replace HO347 := Aside0.mk (Kd.R_below (RU HO347.out) hb); have BK349 := Aside0.mk (hbox); have GW349 := Aside0.mk ((by rw [hg]; exact (below_size (bS4 HB.out GE289.out GE304.out GE311.out GE319.out)) : w.heap.size ≤ gb349)); have GE349 := Aside0.mk ((by rw [hg]; exact (below_size (bS4 HB.out GE289.out GE304.out GE311.out GE319.out)) : w.heap.size ≤ gb349)); replace HB := Aside0.mk (below_step (bS4 HB.out GE289.out GE304.out GE311.out GE319.out) hb); have NB289_349 := Aside0.mk (kN BK289.out hg); have NB349_289 := Aside0.mk (kM BK289.out hg); replace BK289 := Aside0.mk (kB BK289.out hb); have NB304_349 := Aside0.mk (kN BK304.out hg); have NB349_304 := Aside0.mk (kM BK304.out hg); replace BK304 := Aside0.mk (kB BK304.out hb); have NB311_349 := Aside0.mk (kN BK311.out hg); have NB349_311 := Aside0.mk (kM BK311.out hg); replace BK311 := Aside0.mk (kB BK311.out hb); have NB319_349 := Aside0.mk (kN BK319.out hg); have NB349_319 := Aside0.mk (kM BK319.out hg); replace BK319 := Aside0.mk (kB BK319.out hb); clear hb hbox hg; obtain ⟨Ao101, co101, eo101⟩ := Kd.R_slice HO344.out; subst eo101; have hnb102 := NB349_289.out; have hnc102 := NB289_349.out; have hnb103 := NB349_304.out; have hnc103 := NB304_349.out; have hnb104 := NB349_311.out; have hnc104 := NB311_349.out; have hnb105 := NB349_319.out; have hnc105 := NB319_349.out; have hcz106_0 : w100.cell? ⟨gb349, 0, none⟩ = some (.slice none 0 0) := (blk_cell BK349.out 0).trans rfl; have hcz106_1 : w100.cell? ⟨gb349, 1, none⟩ = some (.slice none 0 0) := (blk_cell BK349.out 1).trans rfl; have hfz106_0 := blk_frozen BK349.out 0; have hfz106_1 := blk_frozen BK349.out 1; obtain ⟨Ao107, co107, eo107⟩ := Kd.R_slice HO347.out; subst eo107))
           (try simp only [Act.put, List.setIfInBounds_toArray, List.set_cons_zero, List.set_cons_succ])
           go_cut [87] (fun v87 wc => ∃ (kq : Nat) (x87_84 : Bool), v87 = .bool x87_84 ∧ Aside0 (laws_FnExactTurn.j2 kq t332 x87_84 t333 t334 = some r) ∧ Aside0 (kq ≤ kj55) ∧ Aside0 (Kd.R (Kd.int .i64) 3 wc w.heap.size (fun k_ => some k_ ≠ ((.slice Ao24 t300.length co24) : Value).ownBlock ∧ some k_ ≠ ((.slice Ao28 t329.length co28) : Value).ownBlock ∧ some k_ ≠ ((.slice Ao32 t330.length co32) : Value).ownBlock ∧ some k_ ≠ ((.slice Ao35 t312.length co35) : Value).ownBlock ∧ some k_ ≠ ((.slice Ao40 t315.length co40) : Value).ownBlock ∧ some k_ ≠ ((.slice Ao101 t342.length co101) : Value).ownBlock ∧ some k_ ≠ ((.slice Ao107 t345.length co107) : Value).ownBlock) (.slice Ao21 t297.length co21) t297) ∧ Aside0 (Kd.R (Kd.int .i64) 3 wc w.heap.size (fun k_ => some k_ ≠ ((.slice Ao21 t297.length co21) : Value).ownBlock ∧ some k_ ≠ ((.slice Ao28 t329.length co28) : Value).ownBlock ∧ some k_ ≠ ((.slice Ao32 t330.length co32) : Value).ownBlock ∧ some k_ ≠ ((.slice Ao35 t312.length co35) : Value).ownBlock ∧ some k_ ≠ ((.slice Ao40 t315.length co40) : Value).ownBlock ∧ some k_ ≠ ((.slice Ao101 t342.length co101) : Value).ownBlock ∧ some k_ ≠ ((.slice Ao107 t345.length co107) : Value).ownBlock) (.slice Ao24 t300.length co24) t300) ∧ Aside0 (Kd.R (Kd.int .i64) 3 wc w.heap.size (fun k_ => some k_ ≠ ((.slice Ao21 t297.length co21) : Value).ownBlock ∧ some k_ ≠ ((.slice Ao24 t300.length co24) : Value).ownBlock ∧ some k_ ≠ ((.slice Ao32 t330.length co32) : Value).ownBlock ∧ some k_ ≠ ((.slice Ao35 t312.length co35) : Value).ownBlock ∧ some k_ ≠ ((.slice Ao40 t315.length co40) : Value).ownBlock ∧ some k_ ≠ ((.slice Ao101 t342.length co101) : Value).ownBlock ∧ some k_ ≠ ((.slice Ao107 t345.length co107) : Value).ownBlock) (.slice Ao28 t329.length co28) t329) ∧ Aside0 (Kd.R (Kd.int .i64) 3 wc w.heap.size (fun k_ => some k_ ≠ ((.slice Ao21 t297.length co21) : Value).ownBlock ∧ some k_ ≠ ((.slice Ao24 t300.length co24) : Value).ownBlock ∧ some k_ ≠ ((.slice Ao28 t329.length co28) : Value).ownBlock ∧ some k_ ≠ ((.slice Ao35 t312.length co35) : Value).ownBlock ∧ some k_ ≠ ((.slice Ao40 t315.length co40) : Value).ownBlock ∧ some k_ ≠ ((.slice Ao101 t342.length co101) : Value).ownBlock ∧ some k_ ≠ ((.slice Ao107 t345.length co107) : Value).ownBlock) (.slice Ao32 t330.length co32) t330) ∧ Aside0 (Kd.R (Kd.int .i64) 3 wc w.heap.size (fun k_ => some k_ ≠ ((.slice Ao21 t297.length co21) : Value).ownBlock ∧ some k_ ≠ ((.slice Ao24 t300.length co24) : Value).ownBlock ∧ some k_ ≠ ((.slice Ao28 t329.length co28) : Value).ownBlock ∧ some k_ ≠ ((.slice Ao32 t330.length co32) : Value).ownBlock ∧ some k_ ≠ ((.slice Ao40 t315.length co40) : Value).ownBlock ∧ some k_ ≠ ((.slice Ao101 t342.length co101) : Value).ownBlock ∧ some k_ ≠ ((.slice Ao107 t345.length co107) : Value).ownBlock) (.slice Ao35 t312.length co35) t333) ∧ Aside0 (Kd.R (Kd.int .i64) 3 wc w.heap.size (fun k_ => some k_ ≠ ((.slice Ao21 t297.length co21) : Value).ownBlock ∧ some k_ ≠ ((.slice Ao24 t300.length co24) : Value).ownBlock ∧ some k_ ≠ ((.slice Ao28 t329.length co28) : Value).ownBlock ∧ some k_ ≠ ((.slice Ao32 t330.length co32) : Value).ownBlock ∧ some k_ ≠ ((.slice Ao35 t312.length co35) : Value).ownBlock ∧ some k_ ≠ ((.slice Ao101 t342.length co101) : Value).ownBlock ∧ some k_ ≠ ((.slice Ao107 t345.length co107) : Value).ownBlock) (.slice Ao40 t315.length co40) t334) ∧ Aside0 (Kd.R (Kd.int .i64) 3 wc w.heap.size (fun k_ => some k_ ≠ ((.slice Ao21 t297.length co21) : Value).ownBlock ∧ some k_ ≠ ((.slice Ao24 t300.length co24) : Value).ownBlock ∧ some k_ ≠ ((.slice Ao28 t329.length co28) : Value).ownBlock ∧ some k_ ≠ ((.slice Ao32 t330.length co32) : Value).ownBlock ∧ some k_ ≠ ((.slice Ao35 t312.length co35) : Value).ownBlock ∧ some k_ ≠ ((.slice Ao40 t315.length co40) : Value).ownBlock ∧ some k_ ≠ ((.slice Ao107 t345.length co107) : Value).ownBlock) (.slice Ao101 t342.length co101) t342) ∧ Aside0 (Kd.R (Kd.int .i64) 3 wc w.heap.size (fun k_ => some k_ ≠ ((.slice Ao21 t297.length co21) : Value).ownBlock ∧ some k_ ≠ ((.slice Ao24 t300.length co24) : Value).ownBlock ∧ some k_ ≠ ((.slice Ao28 t329.length co28) : Value).ownBlock ∧ some k_ ≠ ((.slice Ao32 t330.length co32) : Value).ownBlock ∧ some k_ ≠ ((.slice Ao35 t312.length co35) : Value).ownBlock ∧ some k_ ≠ ((.slice Ao40 t315.length co40) : Value).ownBlock ∧ some k_ ≠ ((.slice Ao101 t342.length co101) : Value).ownBlock) (.slice Ao107 t345.length co107) t345) ∧ Aside0 (wc.heap[gb289]? = some (.cells #[(.slice A0_0 l0_0.length c0_0), (.slice A0_1 l0_1.length c0_1)] 24 (0, 0))) ∧ Aside0 (wc.heap[gb304]? = some (.cells #[(.slice Ao21 t297.length co21), (.slice Ao24 t300.length co24)] 26 (0, 0))) ∧ Aside0 (wc.heap[gb311]? = some (.cells #[(.slice Ao28 t329.length co28), (.slice Ao32 t330.length co32)] 26 (0, 0))) ∧ Aside0 (wc.heap[gb319]? = some (.cells #[(.slice Ao35 t312.length co35), (.slice Ao40 t315.length co40)] 26 (0, 0))) ∧ Aside0 (wc.heap[gb349]? = some (.cells #[(.slice Ao101 t342.length co101), (.slice Ao107 t345.length co107)] 26 (0, 0))) ∧ Aside0 (Below w.heap.size w wc))
           case first =>
            have H := HC85.out
            clear HC85
            replace H := Option.bind_eq_some_iff.mp H
            obtain ⟨t350, A1080, H⟩ := H
            replace H : (if t350 = true then (laws_FnExactTurn.j2 kj55 t332 (t348 != t303) t333 t334) else (laws_FnExactTurn.j2 kj55 t332 true t333 t334)) = some r := H
            have A108 := Aside0.mk A1080
            clear A1080
            by_cases c109 : t350 = true
            ·
             subst c109
             have H1 : (laws_FnExactTurn.j2 kj55 t332 (t348 != t303) t333 t334) = some r := by rw [if_pos rfl] at H; exact H
             clear H
             have H := H1
             clear H1
             have H' := Aside0.mk H
             clear H
             have hnb110 := NB349_289.out
             have hnc110 := NB289_349.out
             have hnb111 := NB349_304.out
             have hnc111 := NB304_349.out
             have hnb112 := NB349_311.out
             have hnc112 := NB311_349.out
             have hnb113 := NB349_319.out
             have hnc113 := NB319_349.out
             have hcz114_0 : w100.cell? ⟨gb349, 0, none⟩ = some (.slice none 0 0) := (blk_cell BK349.out 0).trans rfl
             have hcz114_1 : w100.cell? ⟨gb349, 1, none⟩ = some (.slice none 0 0) := (blk_cell BK349.out 1).trans rfl
             have hfz114_0 := blk_frozen BK349.out 0
             have hfz114_1 := blk_frozen BK349.out 1
             have hnb115 := NB304_289.out
             have hnc115 := NB289_304.out
             have hnb116 := NB304_311.out
             have hnc116 := NB311_304.out
             have hnb117 := NB304_319.out
             have hnc117 := NB319_304.out
             have hcz118_0 : w100.cell? ⟨gb304, 0, none⟩ = some (.slice Ao21 t297.length co21) := (blk_cell BK304.out 0).trans rfl
             have hcz118_1 : w100.cell? ⟨gb304, 1, none⟩ = some (.slice Ao24 t300.length co24) := (blk_cell BK304.out 1).trans rfl
             have hfz118_0 := blk_frozen BK304.out 0
             have hfz118_1 := blk_frozen BK304.out 1
             go_wp2_with (first | ((with_reducible refine gate_callee (f := 19) rfl ?_); refine goesL_ (some 81) rfl rfl Try.func19 (by kernel_rfl) rfl #[.agg #[.slice Ao101 t342.length co101, .slice Ao107 t345.length co107], .agg #[.slice Ao21 t297.length co21, .slice Ao24 t300.length co24]] rfl lU ?_; (with_reducible refine (laws_eqArray.calls kj55 _ _ t342 _ _ t345 _ _ t297 _ _ t300 true _ ?side1 ?side2 ?side3 ?side4 ?side5 ?side6 ?side7 ?side8 A108.out).mono ?_); (case side1 => refine (Kd.R_reads' (e := 3) (base := w.heap.size) (ok := fun k_ => ((((((((some k_ ≠ (.slice Ao107 t345.length co107 : Value).ownBlock ∧ some k_ ≠ (.slice Ao21 t297.length co21 : Value).ownBlock) ∧ some k_ ≠ (.slice Ao24 t300.length co24 : Value).ownBlock) ∧ some k_ ≠ (.slice Ao28 t329.length co28 : Value).ownBlock) ∧ some k_ ≠ (.slice Ao32 t330.length co32 : Value).ownBlock) ∧ some k_ ≠ (.slice Ao35 t312.length co35 : Value).ownBlock) ∧ some k_ ≠ (.slice Ao40 t315.length co40 : Value).ownBlock) ∧ some k_ ≠ (.slice Ao97 t336.length co97 : Value).ownBlock) ∧ some k_ ≠ (.slice Ao98 t339.length co98 : Value).ownBlock)) (n := t342.length) (c := co101) ?_).2.2; exact (by refine RU ?_; exact (far2 HO344.out BK349.out))); (case side2 => exact (Kd.R_reads' HO344.out).2.1); (case side3 => refine (Kd.R_reads' (e := 3) (base := w.heap.size) (ok := fun k_ => ((((((((some k_ ≠ (.slice Ao101 t342.length co101 : Value).ownBlock ∧ some k_ ≠ (.slice Ao21 t297.length co21 : Value).ownBlock) ∧ some k_ ≠ (.slice Ao24 t300.length co24 : Value).ownBlock) ∧ some k_ ≠ (.slice Ao28 t329.length co28 : Value).ownBlock) ∧ some k_ ≠ (.slice Ao32 t330.length co32 : Value).ownBlock) ∧ some k_ ≠ (.slice Ao35 t312.length co35 : Value).ownBlock) ∧ some k_ ≠ (.slice Ao40 t315.length co40 : Value).ownBlock) ∧ some k_ ≠ (.slice Ao97 t336.length co97 : Value).ownBlock) ∧ some k_ ≠ (.slice Ao98 t339.length co98 : Value).ownBlock)) (n := t345.length) (c := co107) ?_).2.2; exact (by refine RU ?_; exact (far2 HO347.out BK349.out))); (case side4 => exact (Kd.R_reads' HO347.out).2.1); (case side5 => refine (Kd.R_reads' (e := 3) (base := w.heap.size) (ok := fun k_ => (((((some k_ ≠ (.slice Ao24 t300.length co24 : Value).ownBlock ∧ (some k_ ≠ (.slice Ao28 t329.length co28 : Value).ownBlock ∧ (some k_ ≠ (.slice Ao32 t330.length co32 : Value).ownBlock ∧ (some k_ ≠ (.slice Ao35 t312.length co35 : Value).ownBlock ∧ some k_ ≠ (.slice Ao40 t315.length co40 : Value).ownBlock)))) ∧ some k_ ≠ (.slice Ao97 t336.length co97 : Value).ownBlock) ∧ some k_ ≠ (.slice Ao98 t339.length co98 : Value).ownBlock) ∧ some k_ ≠ (.slice Ao101 t342.length co101 : Value).ownBlock) ∧ some k_ ≠ (.slice Ao107 t345.length co107 : Value).ownBlock)) (n := t297.length) (c := co21) ?_).2.2; exact (by refine RU ?_; exact (far2 HO_305000.out BK349.out))); (case side6 => exact (Kd.R_reads' HO_305000.out).2.1); (case side7 => refine (Kd.R_reads' (e := 3) (base := w.heap.size) (ok := fun k_ => (((((some k_ ≠ (.slice Ao21 t297.length co21 : Value).ownBlock ∧ (some k_ ≠ (.slice Ao28 t329.length co28 : Value).ownBlock ∧ (some k_ ≠ (.slice Ao32 t330.length co32 : Value).ownBlock ∧ (some k_ ≠ (.slice Ao35 t312.length co35 : Value).ownBlock ∧ some k_ ≠ (.slice Ao40 t315.length co40 : Value).ownBlock)))) ∧ some k_ ≠ (.slice Ao97 t336.length co97 : Value).ownBlock) ∧ some k_ ≠ (.slice Ao98 t339.length co98 : Value).ownBlock) ∧ some k_ ≠ (.slice Ao101 t342.length co101 : Value).ownBlock) ∧ some k_ ≠ (.slice Ao107 t345.length co107 : Value).ownBlock)) (n := t300.length) (c := co24) ?_).2.2; exact (by refine RU ?_; exact (far2 HO_305001.out BK349.out))); (case side8 => exact (Kd.R_reads' HO_305001.out).2.1); rintro e w119 ⟨rfl, hb⟩; refine ⟨_, rfl, ?_⟩; replace HO_305000 := Aside0.mk (Kd.R_below (by refine RU ?_; exact (far2 HO_305000.out BK349.out)) hb); replace HO_305001 := Aside0.mk (Kd.R_below (by refine RU ?_; exact (far2 HO_305001.out BK349.out)) hb); replace HO_312000 := Aside0.mk (Kd.R_below (by refine RU ?_; exact (far2 HO_312000.out BK349.out)) hb); replace HO_312001 := Aside0.mk (Kd.R_below (by refine RU ?_; exact (far2 HO_312001.out BK349.out)) hb); replace HO_320000 := Aside0.mk (Kd.R_below (by refine RU ?_; exact (far2 HO_320000.out BK349.out)) hb); replace HO_320001 := Aside0.mk (Kd.R_below (by refine RU ?_; exact (far2 HO_320001.out BK349.out)) hb); replace HO338 := Aside0.mk (Kd.R_below (by refine RU ?_; exact (far2 HO338.out BK349.out)) hb); replace HO341 := Aside0.mk (Kd.R_below (by refine RU ?_; exact (far2 HO341.out BK349.out)) hb); replace HO344 := Aside0.mk (Kd.R_below (by refine RU ?_; exact (far2 HO344.out BK349.out)) hb); replace HO347 := Aside0.mk (Kd.R_below (by refine RU ?_; exact (far2 HO347.out BK349.out)) hb); replace BK289 := Aside0.mk (blk_below (g := gb289) (o := .cells #[.slice A0_0 l0_0.length c0_0, .slice A0_1 l0_1.length c0_1] 24 (0, 0)) (by refine kU ?_; refine blk_far ?_ NB289_349.out _; refine kU ?_; refine blk_far ?_ NB289_349.out _; refine kU ?_; exact BK289.out) hb); replace BK304 := Aside0.mk (blk_below (g := gb304) (o := .cells #[.slice Ao21 t297.length co21, .slice Ao24 t300.length co24] 26 (0, 0)) (by refine kU ?_; refine blk_far ?_ NB304_349.out _; refine kU ?_; refine blk_far ?_ NB304_349.out _; refine kU ?_; exact BK304.out) hb); replace BK311 := Aside0.mk (blk_below (g := gb311) (o := .cells #[.slice Ao28 t329.length co28, .slice Ao32 t330.length co32] 26 (0, 0)) (by refine kU ?_; refine blk_far ?_ NB311_349.out _; refine kU ?_; refine blk_far ?_ NB311_349.out _; refine kU ?_; exact BK311.out) hb); replace BK319 := Aside0.mk (blk_below (g := gb319) (o := .cells #[.slice Ao35 t312.length co35, .slice Ao40 t315.length co40] 26 (0, 0)) (by refine kU ?_; refine blk_far ?_ NB319_349.out _; refine kU ?_; refine blk_far ?_ NB319_349.out _; refine kU ?_; exact BK319.out) hb); replace BK349 := Aside0.mk (blk_below (g := gb349) (o := .cells #[.slice Ao101 t342.length co101, .slice Ao107 t345.length co107] 26 (0, 0)) (by refine kU ?_; refine blk_put (cs := #[.slice Ao101 t342.length co101, .slice none 0 0]) ?_ 1 _ rfl; refine kU ?_; refine blk_put (cs := #[.slice none 0 0, .slice none 0 0]) ?_ 0 _ rfl; refine kU ?_; exact BK349.out) hb); replace HB := Aside0.mk (below_step (bS5 HB.out GE289.out GE304.out GE311.out GE319.out GE349.out) hb); (try clear hb); (try clear hb2); (try clear hk); (try clear hi)))
             go_meet
             case rel => exact ⟨_, ((t348 != t303)), (by first | rfl | (simp; done) | (simp [*]; done)), H', ⟨by have := HJ10.out; have := HJ55.out; first | omega | exact Nat.le_refl _⟩, ⟨by (try simp only [hl312000_55]); (try simp only [hl312001_55]); refine RU ?_; exact Kd.R_mono HO_305000.out (fun _ hk => ⟨hk.1.1.1.1.1, ⟨hk.1.1.1.1.2.1, ⟨hk.1.1.1.1.2.2.1, ⟨hk.1.1.1.1.2.2.2.1, ⟨hk.1.1.1.1.2.2.2.2, ⟨hk.1.2, hk.2⟩⟩⟩⟩⟩⟩)⟩, ⟨by (try simp only [hl312000_55]); (try simp only [hl312001_55]); refine RU ?_; exact Kd.R_mono HO_305001.out (fun _ hk => ⟨hk.1.1.1.1.1, ⟨hk.1.1.1.1.2.1, ⟨hk.1.1.1.1.2.2.1, ⟨hk.1.1.1.1.2.2.2.1, ⟨hk.1.1.1.1.2.2.2.2, ⟨hk.1.2, hk.2⟩⟩⟩⟩⟩⟩)⟩, ⟨by (try simp only [hl312000_55]); (try simp only [hl312001_55]); refine RU ?_; exact Kd.R_mono HO_312000.out (fun _ hk => ⟨hk.1.1.1.1.1, ⟨hk.1.1.1.1.2.1, ⟨hk.1.1.1.1.2.2.1, ⟨hk.1.1.1.1.2.2.2.1, ⟨hk.1.1.1.1.2.2.2.2, ⟨hk.1.2, hk.2⟩⟩⟩⟩⟩⟩)⟩, ⟨by (try simp only [hl312000_55]); (try simp only [hl312001_55]); refine RU ?_; exact Kd.R_mono HO_312001.out (fun _ hk => ⟨hk.1.1.1.1.1, ⟨hk.1.1.1.1.2.1, ⟨hk.1.1.1.1.2.2.1, ⟨hk.1.1.1.1.2.2.2.1, ⟨hk.1.1.1.1.2.2.2.2, ⟨hk.1.2, hk.2⟩⟩⟩⟩⟩⟩)⟩, ⟨by (try simp only [hl312000_55]); (try simp only [hl312001_55]); refine RU ?_; exact Kd.R_mono HO_320000.out (fun _ hk => ⟨hk.1.1.1.1.1, ⟨hk.1.1.1.1.2.1, ⟨hk.1.1.1.1.2.2.1, ⟨hk.1.1.1.1.2.2.2.1, ⟨hk.1.1.1.1.2.2.2.2, ⟨hk.1.2, hk.2⟩⟩⟩⟩⟩⟩)⟩, ⟨by (try simp only [hl312000_55]); (try simp only [hl312001_55]); refine RU ?_; exact Kd.R_mono HO_320001.out (fun _ hk => ⟨hk.1.1.1.1.1, ⟨hk.1.1.1.1.2.1, ⟨hk.1.1.1.1.2.2.1, ⟨hk.1.1.1.1.2.2.2.1, ⟨hk.1.1.1.1.2.2.2.2, ⟨hk.1.2, hk.2⟩⟩⟩⟩⟩⟩)⟩, ⟨by (try simp only [hl312000_55]); (try simp only [hl312001_55]); refine RU ?_; exact Kd.R_mono HO344.out (fun _ hk => ⟨hk.1.1.1.1.1.1.1.2, ⟨hk.1.1.1.1.1.1.2, ⟨hk.1.1.1.1.1.2, ⟨hk.1.1.1.1.2, ⟨hk.1.1.1.2, ⟨hk.1.1.2, hk.1.1.1.1.1.1.1.1⟩⟩⟩⟩⟩⟩)⟩, ⟨by (try simp only [hl312000_55]); (try simp only [hl312001_55]); refine RU ?_; exact Kd.R_mono HO347.out (fun _ hk => ⟨hk.1.1.1.1.1.1.1.2, ⟨hk.1.1.1.1.1.1.2, ⟨hk.1.1.1.1.1.2, ⟨hk.1.1.1.1.2, ⟨hk.1.1.1.2, ⟨hk.1.1.2, hk.1.1.1.1.1.1.1.1⟩⟩⟩⟩⟩⟩)⟩, ⟨by (try simp only [hl312000_55]); (try simp only [hl312001_55]); refine kU ?_; exact BK289.out⟩, ⟨by (try simp only [hl312000_55]); (try simp only [hl312001_55]); refine kU ?_; exact BK304.out⟩, ⟨by (try simp only [hl312000_55]); (try simp only [hl312001_55]); refine kU ?_; exact BK311.out⟩, ⟨by (try simp only [hl312000_55]); (try simp only [hl312001_55]); refine kU ?_; exact BK319.out⟩, ⟨by (try simp only [hl312000_55]); (try simp only [hl312001_55]); refine kU ?_; exact BK349.out⟩, ⟨by exact bS5 HB.out GE289.out GE304.out GE311.out GE319.out GE349.out⟩⟩
            ·
             replace c109 := Bool.eq_false_iff.mpr c109
             subst c109
             have H1 : (laws_FnExactTurn.j2 kj55 t332 true t333 t334) = some r := by rw [if_neg (show ¬ (false = true) by decide)] at H; exact H
             clear H
             have H := H1
             clear H1
             have hz_ : ∀ kz, laws_FnExactTurn.j2 kz t332 true t333 t334 = some r → r = false := by intro kz hz; cases kz with | zero => exact absurd hz (by simp [laws_FnExactTurn.j2]) | succ kz => simp only [laws_FnExactTurn.j2] at hz; first | (rw [if_pos rfl] at hz; exact (Option.some.inj hz).symm) | (simp at hz; exact hz.symm) | (simp at hz; exact hz)
             exact absurd (HT.out.symm.trans (hz_ _ H)) (by decide)
           case rest =>
            clear HC85
            try clear c1
            try clear c2
            try clear p2
            try clear c3
            try clear c3b0
            try clear c4
            try clear c5
            try clear c6
            try clear c7
            try clear c8
            try clear c9
            try clear c10
            try clear c11
            try clear c15
            try clear c17
            try clear c19
            try clear c20
            try clear c21
            try clear c22
            try clear c29
            try clear c30
            try clear c36
            try clear c37
            try clear c38
            try clear c42
            try clear c43
            try clear c44
            try clear c45
            try clear c47
            try clear c48
            try clear c51
            try clear c54
            try clear c62
            try clear c63
            try clear c64
            try clear c67
            try clear c67b0
            try clear c69
            try clear c70
            try clear c71
            try clear c72
            try clear c74
            try clear c75
            try clear c78
            try clear c81
            try clear c81b0
            try clear c82
            try clear c82b0
            try clear c82b1
            try clear c86
            try clear c87
            try clear c88
            try clear c93
            try clear c94
            try clear c102
            try clear c103
            try clear c104
            try clear c105
            try clear c109
            try clear c110
            try clear c111
            try clear c112
            try clear c113
            try clear c115
            try clear c116
            try clear c117
            try clear hcz106_0
            try clear hcz106_1
            try clear hcz114_0
            try clear hcz114_1
            try clear hcz118_0
            try clear hcz118_1
            try clear hcz13_0
            try clear hcz13_1
            try clear hcz15_0
            try clear hcz15_1
            try clear hcz23_0
            try clear hcz23_1
            try clear hcz25_0
            try clear hcz25_1
            try clear hcz31_0
            try clear hcz31_1
            try clear hcz39_0
            try clear hcz39_1
            try clear hcz46_0
            try clear hcz46_1
            try clear hcz49_0
            try clear hcz49_1
            try clear hcz5_0
            try clear hcz5_1
            try clear hcz65_0
            try clear hcz65_1
            try clear hcz73_0
            try clear hcz73_1
            try clear hcz76_0
            try clear hcz76_1
            try clear hcz89_0
            try clear hcz89_1
            try clear hcz91_0
            try clear hcz91_1
            try clear hcz95_0
            try clear hcz95_1
            try clear hfz106_0
            try clear hfz106_1
            try clear hfz114_0
            try clear hfz114_1
            try clear hfz118_0
            try clear hfz118_1
            try clear hfz13_0
            try clear hfz13_1
            try clear hfz15_0
            try clear hfz15_1
            try clear hfz23_0
            try clear hfz23_1
            try clear hfz25_0
            try clear hfz25_1
            try clear hfz31_0
            try clear hfz31_1
            try clear hfz39_0
            try clear hfz39_1
            try clear hfz46_0
            try clear hfz46_1
            try clear hfz49_0
            try clear hfz49_1
            try clear hfz5_0
            try clear hfz5_1
            try clear hfz65_0
            try clear hfz65_1
            try clear hfz73_0
            try clear hfz73_1
            try clear hfz76_0
            try clear hfz76_1
            try clear hfz89_0
            try clear hfz89_1
            try clear hfz91_0
            try clear hfz91_1
            try clear hfz95_0
            try clear hfz95_1
            try clear p2
            obtain ⟨kq, x87_84, rfl, HA, HJ84, HO_305000, HO_305001, HO_312000, HO_312001, HO_320000, HO_320001, HO_350000, HO_350001, BK289, BK304, BK311, BK319, BK349, HB⟩ := hcut
            have hl320000_84 := (Kd.R_reads' HO_320000.out).1
            rw [hl320000_84] at HO_320000
            (try simp only [hl320000_84])
            (try simp only [hl320000_84] at BK289)
            (try simp only [hl320000_84] at BK304)
            (try simp only [hl320000_84] at BK311)
            (try simp only [hl320000_84] at BK319)
            (try simp only [hl320000_84] at BK349)
            (try simp only [hl320000_84] at HO_305000)
            (try simp only [hl320000_84] at HO_305001)
            (try simp only [hl320000_84] at HO_312000)
            (try simp only [hl320000_84] at HO_312001)
            (try simp only [hl320000_84] at HO_320001)
            (try simp only [hl320000_84] at HO_350000)
            (try simp only [hl320000_84] at HO_350001)
            have hl320001_84 := (Kd.R_reads' HO_320001.out).1
            rw [hl320001_84] at HO_320001
            (try simp only [hl320001_84])
            (try simp only [hl320001_84] at BK289)
            (try simp only [hl320001_84] at BK304)
            (try simp only [hl320001_84] at BK311)
            (try simp only [hl320001_84] at BK319)
            (try simp only [hl320001_84] at BK349)
            (try simp only [hl320001_84] at HO_305000)
            (try simp only [hl320001_84] at HO_305001)
            (try simp only [hl320001_84] at HO_312000)
            (try simp only [hl320001_84] at HO_312001)
            (try simp only [hl320001_84] at HO_320000)
            (try simp only [hl320001_84] at HO_350000)
            (try simp only [hl320001_84] at HO_350001)
            cases kq with
            | zero => exact absurd HA.out (by simp [laws_FnExactTurn.j2])
            | succ kj84 =>
             have H := HA.out
             clear HA
             simp only [laws_FnExactTurn.j2] at H
             by_cases c120 : x87_84 = true
             ·
              subst c120
              have H1 : (some false) = some r := by rw [if_pos rfl] at H; exact H
              clear H
              have H := H1
              clear H1
              obtain rfl := Option.some.inj H
              exact absurd HT.out (by decide)
             ·
              replace c120 := Bool.eq_false_iff.mpr c120
              subst c120
              have H1 : ((laws_heldArray.f kj84 t333 t334 1).bind fun t351 => (if t351 < 0 then (some false) else (if t351 = t332 then (some true) else (some false)))) = some r := by rw [if_neg (show ¬ (false = true) by decide)] at H; exact H
              clear H
              have H := H1
              clear H1
              replace H := Option.bind_eq_some_iff.mp H
              obtain ⟨t351, A1210, H⟩ := H
              replace H : (if t351 < 0 then (some false) else (if t351 = t332 then (some true) else (some false))) = some r := H
              have A121 := Aside0.mk A1210
              clear A1210
              by_cases c122 : t351 < 0
              ·
               rw [if_pos c122] at H
               have c122b0 : decide (t351 < 0) = true := decide_eq_true c122
               clear c122
               obtain rfl := Option.some.inj H
               exact absurd HT.out (by decide)
              ·
               rw [if_neg c122] at H
               have c122b0 : decide (t351 < 0) = false := decide_eq_false c122
               clear c122
               by_cases c123 : t351 = t332
               ·
                rw [if_pos c123] at H
                have c123b0 : (t351 == t332) = true := beq_iff_eq.mpr c123
                have c123b1 : (t351 != t332) = false := bne_eq_false_iff_eq.mpr c123
                clear c123
                obtain rfl := Option.some.inj H
                have hnb124 := NB319_289.out
                have hnc124 := NB289_319.out
                have hnb125 := NB319_304.out
                have hnc125 := NB304_319.out
                have hnb126 := NB319_311.out
                have hnc126 := NB311_319.out
                have hnb127 := NB319_349.out
                have hnc127 := NB349_319.out
                have hcz128_0 : wc.cell? ⟨gb319, 0, none⟩ = some (.slice Ao35 t333.length co35) := (blk_cell BK319.out 0).trans rfl
                have hcz128_1 : wc.cell? ⟨gb319, 1, none⟩ = some (.slice Ao40 t334.length co40) := (blk_cell BK319.out 1).trans rfl
                have hfz128_0 := blk_frozen BK319.out 0
                have hfz128_1 := blk_frozen BK319.out 1
                go_wp2_with (first | ((with_reducible refine gate_callee (f := 21) rfl ?_); refine goesL_ (some 90) rfl rfl Try.func21 (by kernel_rfl) rfl #[.agg #[.slice Ao35 t333.length co35, .slice Ao40 t334.length co40], .int .i64 1] rfl lU ?_; (with_reducible refine (laws_heldArray.calls kj84 _ _ t333 _ _ t334 1 t351 _ ?side1 ?side2 ?side3 ?side4 A121.out).mono ?_); (case side1 => exact cU (Kd.R_reads' HO_320000.out).2.2); (case side2 => exact (Kd.R_reads' HO_320000.out).2.1); (case side3 => exact cU (Kd.R_reads' HO_320001.out).2.2); (case side4 => exact (Kd.R_reads' HO_320001.out).2.1); rintro e w129 ⟨rfl, hb⟩; refine ⟨_, rfl, ?_⟩; replace HO_305000 := Aside0.mk (Kd.R_below (RU HO_305000.out) hb); replace HO_305001 := Aside0.mk (Kd.R_below (RU HO_305001.out) hb); replace HO_312000 := Aside0.mk (Kd.R_below (RU HO_312000.out) hb); replace HO_312001 := Aside0.mk (Kd.R_below (RU HO_312001.out) hb); replace HO_320000 := Aside0.mk (Kd.R_below (RU HO_320000.out) hb); replace HO_320001 := Aside0.mk (Kd.R_below (RU HO_320001.out) hb); replace HO_350000 := Aside0.mk (Kd.R_below (RU HO_350000.out) hb); replace HO_350001 := Aside0.mk (Kd.R_below (RU HO_350001.out) hb); replace BK289 := Aside0.mk (kB BK289.out hb); replace BK304 := Aside0.mk (kB BK304.out hb); replace BK311 := Aside0.mk (kB BK311.out hb); replace BK319 := Aside0.mk (kB BK319.out hb); replace BK349 := Aside0.mk (kB BK349.out hb); replace HB := Aside0.mk (below_step (bS5 HB.out GE289.out GE304.out GE311.out GE319.out GE349.out) hb); (try clear hb); (try clear hb2); (try clear hk); (try clear hi)))
                go_ret
                exact ⟨by first | rfl | (simp [errW_none, errW_some] <;> rfl) | (simp [*, errW_none, errW_some] <;> rfl), by exact bS5 HB.out GE289.out GE304.out GE311.out GE319.out GE349.out⟩
               ·
                rw [if_neg c123] at H
                have c123b0 : (t351 == t332) = false := beq_eq_false_iff_ne.mpr c123
                have c123b1 : (t351 != t332) = true := bne_iff_ne.mpr c123
                obtain rfl := Option.some.inj H
                exact absurd HT.out (by decide)
          ·
           rw [if_neg c82] at H
           have c82b0 : (t335 == t332) = false := beq_eq_false_iff_ne.mpr c82
           have c82b1 : (t335 != t332) = true := bne_iff_ne.mpr c82
           obtain rfl := Option.some.inj H
           exact absurd HT.out (by decide)
     ·
      replace c54 := Bool.eq_false_iff.mpr c54
      subst c54
      have H1 : (some false) = some r := by rw [if_neg (show ¬ (false = true) by decide)] at H; exact H
      clear H
      have H := H1
      clear H1
      obtain rfl := Option.some.inj H
      exact absurd HT.out (by decide)

end Go.Proofs.Ytcnbajdnlkcjjaa.PFnExactTurn
