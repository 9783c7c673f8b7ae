/- The walk of what a law reaches, for the law's row: written by a program of this session; it has no condition of its own. -/
import Derived.Test.YtnpcjppcoejgmaaPFnExactPickx0
import Derived.Test.YtnpcjppcoejgmaaQ
import Derived.Test.YtnpcjppcoejgmaaPFnExactPickx1
import Derived.Test.YtnpcjppcoejgmaaPFnExactPickx4
import Derived.Test.YtnpcjppcoejgmaaPFnExactPickx7
import Derived.Test.YtnpcjppcoejgmaaPFnExactPickx8
namespace Go.Proofs.Ytnpcjppcoejgmaa.PFnExactPick
open Go.RowKit Go.Proofs.YtnpcjppcoejgmaaW.PrintWords Go.Proofs.YtnpcjppcoejgmaaW.PrintLast Go.Proofs.YtnpcjppcoejgmaaW.PrintMore Go.Proofs.YtnpcjppcoejgmaaQ
attribute [local go_sem] max2_int min2_int max_two min_two max_three min_three max_four min_four   -- for this text's walks alone
set_option linter.unusedVariables false
set_option linter.unusedSimpArgs false

/-! ### laws_FnExactPick: function 4 -/
mutual
def laws_FnExactPick.j0 : Nat → Int → Int → Bool → List Int → List Int → List Int → List Int → List Int → List Int → List Int → List Int → List Int → List Int → List Int → List Int → Option (Bool)
 | 0, _, _, _, _, _, _, _, _, _, _, _, _, _, _, _ => none
 | k + 1, x7, x11, x53, x278000, x278001, x279000, x279001, x301000, x301001, x308000, x308001, x315000, x315001, x323000, x323001 => if x53 = true then (some false) else ((laws_toArray.f k x278000 x278001).bind fun bt324 => ((laws_eqArray.f k x308000 x308001 bt324.1 bt324.2).bind fun t330 => (if t330 = true then ((laws_toArray.f k x279000 x279001).bind fun bt331 => ((laws_eqArray.f k x315000 x315001 bt331.1 bt331.2).bind fun t337 => (if t337 = true then ((laws_markArray.f k x308000 x308001 1).bind fun bt338 => ((laws_markArray.f k x315000 x315001 bt338.1).bind fun bt341 => (if bt341.1 < 0 then (laws_FnExactPick.j1 k x7 true x278000 x278001 x279000 x279001 x301000 x301001 x323000 x323001) else ((laws_eqArray.f k x323000 x323001 x301000 x301001).bind fun t344 => (if t344 = true then (laws_FnExactPick.j1 k x7 (x11 != x7) x278000 x278001 x279000 x279001 x301000 x301001 x323000 x323001) else (laws_FnExactPick.j1 k x7 true x278000 x278001 x279000 x279001 x301000 x301001 x323000 x323001)))))) else (some false)))) else (some false))))
def laws_FnExactPick.j1 : Nat → Int → Bool → List Int → List Int → List Int → List Int → List Int → List Int → List Int → List Int → Option (Bool)
 | 0, _, _, _, _, _, _, _, _, _, _ => none
 | k + 1, x7, x82, x278000, x278001, x279000, x279001, x301000, x301001, x323000, x323001 => if x82 = true then (some false) else ((laws_markArray.f k x323000 x323001 1).bind fun bt345 => ((laws_heldArray.f k bt345.2.1 bt345.2.2 1).bind fun t348 => (if t348 < 0 then (some false) else (if t348 = bt345.1 then ((laws_toArray.f k x278000 x278001).bind fun bt349 => ((laws_toArray.f k x279000 x279001).bind fun bt355 => ((impl_Pick.f k bt349.1 bt349.2 bt355.1 bt355.2).bind fun bt361 => ((laws_eqArray.f k bt361.1 bt361.2.1 x301000 x301001).bind fun t369 => (if t369 = true then (laws_FnExactPick.j2 k bt345.1 (bt361.2.2 != x7) bt345.2.1 bt345.2.2) else (laws_FnExactPick.j2 k bt345.1 true bt345.2.1 bt345.2.2)))))) else (some false)))))
def laws_FnExactPick.j2 : Nat → Int → Bool → List Int → List Int → Option (Bool)
 | 0, _, _, _, _ => none
 | k + 1, x13, x110, x323000, x323001 => if x110 = true then (some false) else ((laws_heldArray.f k x323000 x323001 1).bind fun t370 => (if t370 < 0 then (some false) else (if t370 = x13 then (some true) else (some false))))
end
def laws_FnExactPick.f (k : Nat) (l0_0 : List Int) (l0_1 : List Int) (l1_0 : List Int) (l1_1 : List Int) : Option (Bool) := (laws_szArray.f l0_0 l0_1 1048576).bind fun t279 => (if t279 < 0 then (some true) else ((laws_szArray.f l1_0 l1_1 t279).bind fun t280 => (if t280 < 0 then (some true) else ((laws_toArray.f k l0_0 l0_1).bind fun bt281 => ((laws_toArray.f k l1_0 l1_1).bind fun bt287 => ((spec_Pick.f k bt281.1 bt281.2 bt287.1 bt287.2).bind fun bt293 => ((laws_toArray.f k l0_0 l0_1).bind fun bt301 => ((laws_toArray.f k l1_0 l1_1).bind fun bt308 => ((impl_Pick.f k bt301.1 bt301.2 bt308.1 bt308.2).bind fun bt315 => ((laws_eqArray.f k bt315.1 bt315.2.1 bt293.1 bt293.2.1).bind fun t323 => (if t323 = true then (laws_FnExactPick.j0 k bt293.2.2 bt315.2.2 (bt315.2.2 != bt293.2.2) l0_0 l0_1 l1_0 l1_1 bt293.1 bt293.2.1 bt301.1 bt301.2 bt308.1 bt308.2 bt315.1 bt315.2.1) else (laws_FnExactPick.j0 k bt293.2.2 bt315.2.2 true l0_0 l0_1 l1_0 l1_1 bt293.1 bt293.2.1 bt301.1 bt301.2 bt308.1 bt308.2 bt315.1 bt315.2.1))))))))))))
def laws_FnExactPick.T8 : Bool × List (List Nat × List Nat) := (true, [([], []), ([0], [0]), ([], []), ([2, 1], [2]), ([1, 3, 3], [1, 3]), ([4], [4]), ([5], [5]), ([5], [5]), ([], []), ([8, 6, 4, 0, 1, 2, 3, 4, 5, 6, 8], [6, 8]), ([7, 9, 0, 1, 2, 3, 4, 5, 6, 7, 8, 9], [7])])
def laws_FnExactPick.B8 : List Nat := [0, 1, 0, 7, 15, 31, 63, 63, 0, 383, 1023]
theorem laws_FnExactPick.tab8 : rtab .any (opsOf Try.f4 8) = laws_FnExactPick.T8 := by kernel_rfl
theorem laws_FnExactPick.bits8 : waitsOk laws_FnExactPick.T8.2 laws_FnExactPick.B8 = true := by kernel_rfl
def laws_FnExactPick.T31 : Bool × List (List Nat × List Nat) := (true, [([], []), ([0], [0]), ([], []), ([2, 1], [2]), ([1, 3, 3], [1, 3]), ([4], [4]), ([5], [5]), ([5], [5]), ([], []), ([8, 6, 4, 0, 1, 2, 3, 4, 5, 6, 8], [6, 8]), ([7, 9, 0, 1, 2, 3, 4, 5, 6, 7, 8, 9], [7])])
def laws_FnExactPick.B31 : List Nat := [0, 1, 0, 7, 15, 31, 63, 63, 0, 383, 1023]
theorem laws_FnExactPick.tab31 : rtab .any (opsOf Try.f4 31) = laws_FnExactPick.T31 := by kernel_rfl
theorem laws_FnExactPick.bits31 : waitsOk laws_FnExactPick.T31.2 laws_FnExactPick.B31 = true := by kernel_rfl
set_option maxHeartbeats 8000000 in
set_option maxRecDepth 100000 in
def laws_FnExactPick.part1 : {P : Prop // (True → P) → ∀ (k : Nat) (A0_0 : Option Addr) (c0_0 : Nat) (l0_0 : List Int) (A0_1 : Option Addr) (c0_1 : Nat) (l0_1 : List Int) (A1_0 : Option Addr) (c1_0 : Nat) (l1_0 : List Int) (A1_1 : Option Addr) (c1_1 : Nat) (l1_1 : List Int) (r : Bool) (w : World) (hr0_0 : Kd.C (Kd.int .i64) w A0_0 l0_0.length l0_0) (hc0_0 : l0_0.length ≤ c0_0) (hr0_1 : Kd.C (Kd.int .i64) w A0_1 l0_1.length l0_1) (hc0_1 : l0_1.length ≤ c0_1) (hr1_0 : Kd.C (Kd.int .i64) w A1_0 l1_0.length l1_0) (hc1_0 : l1_0.length ≤ c1_0) (hr1_1 : Kd.C (Kd.int .i64) w A1_1 l1_1.length l1_1) (hc1_1 : l1_1.length ≤ c1_1) (h : laws_FnExactPick.f k l0_0 l0_1 l1_0 l1_1 = some r) (hT : r = true), Calls Try.prog 4 #[.agg #[.slice A0_0 l0_0.length c0_0, .slice A0_1 l0_1.length c0_1], .agg #[.slice A1_0 l1_0.length c1_0, .slice A1_1 l1_1.length c1_1]] w fun e w' => e = .returned (.bool r) ∧ Below w.heap.size w w'} := ⟨_, fun hRest_ => by
 intro k A0_0 c0_0 l0_0 A0_1 c0_1 l0_1 A1_0 c1_0 l1_0 A1_1 c1_1 l1_1 r w hr0_0 hc0_0 hr0_1 hc0_1 hr1_0 hc1_0 hr1_1 hc1_1 h hT
 have HT := Aside0.mk hT
 clear hT
 have hu24 := Try.underlying24
 have hu28 := Try.underlying28
 have HR0_0 := Aside0.mk hr0_0
 have HC0_0 := Aside0.mk hc0_0
 clear hr0_0 hc0_0
 have HR0_1 := Aside0.mk hr0_1
 have HC0_1 := Aside0.mk hc0_1
 clear hr0_1 hc0_1
 have HR1_0 := Aside0.mk hr1_0
 have HC1_0 := Aside0.mk hc1_0
 clear hr1_0 hc1_0
 have HR1_1 := Aside0.mk hr1_1
 have HC1_1 := Aside0.mk hc1_1
 clear hr1_1 hc1_1
 have HB := Aside0.mk (Below.refl w.heap.size w)
 have H : ((laws_szArray.f l0_0 l0_1 1048576).bind fun t279 => (if t279 < 0 then (some true) else ((laws_szArray.f l1_0 l1_1 t279).bind fun t280 => (if t280 < 0 then (some true) else ((laws_toArray.f k l0_0 l0_1).bind fun bt281 => ((laws_toArray.f k l1_0 l1_1).bind fun bt287 => ((spec_Pick.f k bt281.1 bt281.2 bt287.1 bt287.2).bind fun bt293 => ((laws_toArray.f k l0_0 l0_1).bind fun bt301 => ((laws_toArray.f k l1_0 l1_1).bind fun bt308 => ((impl_Pick.f k bt301.1 bt301.2 bt308.1 bt308.2).bind fun bt315 => ((laws_eqArray.f k bt315.1 bt315.2.1 bt293.1 bt293.2.1).bind fun t323 => (if t323 = true then (laws_FnExactPick.j0 k bt293.2.2 bt315.2.2 (bt315.2.2 != bt293.2.2) l0_0 l0_1 l1_0 l1_1 bt293.1 bt293.2.1 bt301.1 bt301.2 bt308.1 bt308.2 bt315.1 bt315.2.1) else (laws_FnExactPick.j0 k bt293.2.2 bt315.2.2 true l0_0 l0_1 l1_0 l1_1 bt293.1 bt293.2.1 bt301.1 bt301.2 bt308.1 bt308.2 bt315.1 bt315.2.1))))))))))))) = some r := h
 clear h
 replace H := Option.bind_eq_some_iff.mp H
 obtain ⟨t279, A30, H⟩ := H
 replace H : (if t279 < 0 then (some true) else ((laws_szArray.f l1_0 l1_1 t279).bind fun t280 => (if t280 < 0 then (some true) else ((laws_toArray.f k l0_0 l0_1).bind fun bt281 => ((laws_toArray.f k l1_0 l1_1).bind fun bt287 => ((spec_Pick.f k bt281.1 bt281.2 bt287.1 bt287.2).bind fun bt293 => ((laws_toArray.f k l0_0 l0_1).bind fun bt301 => ((laws_toArray.f k l1_0 l1_1).bind fun bt308 => ((impl_Pick.f k bt301.1 bt301.2 bt308.1 bt308.2).bind fun bt315 => ((laws_eqArray.f k bt315.1 bt315.2.1 bt293.1 bt293.2.1).bind fun t323 => (if t323 = true then (laws_FnExactPick.j0 k bt293.2.2 bt315.2.2 (bt315.2.2 != bt293.2.2) l0_0 l0_1 l1_0 l1_1 bt293.1 bt293.2.1 bt301.1 bt301.2 bt308.1 bt308.2 bt315.1 bt315.2.1) else (laws_FnExactPick.j0 k bt293.2.2 bt315.2.2 true l0_0 l0_1 l1_0 l1_1 bt293.1 bt293.2.1 bt301.1 bt301.2 bt308.1 bt308.2 bt315.1 bt315.2.1)))))))))))) = some r := H
 have A3 := Aside0.mk A30
 clear A30
 by_cases c4 : t279 < 0
 ·
  rw [if_pos c4] at H
  have c4b0 : decide (t279 < 0) = true := decide_eq_true c4
  clear c4
  obtain rfl := Option.some.inj H
  go_enter Try.func4, Try.ntmps4
  go_wp2_with (first | ((with_reducible refine gate_dst (N := 2) rfl ?_); refine box_event ?hg (N := 2) ?hd (cs := #[.slice A0_0 l0_0.length c0_0, .slice A0_1 l0_1.length c0_1]) (t := 24) ?hr ?_; (case hd => rfl); (case hg => rfl); (case hr => first | (go_simp; done) | (go_simp; rfl)); intro gb277 hg w5 hbox hb; have BK277 := Aside0.mk (hbox); have GW277 := Aside0.mk ((by rw [hg]; exact (below_size (bU HB.out)) : w.heap.size ≤ gb277)); have GE277 := Aside0.mk ((by rw [hg]; exact (below_size (bU HB.out)) : w.heap.size ≤ gb277)); replace HB := Aside0.mk (below_step (bU HB.out) hb); clear hb hbox hg) | ((with_reducible refine gate_dst (N := 3) rfl ?_); refine box_event ?hg (N := 3) ?hd (cs := #[.slice A1_0 l1_0.length c1_0, .slice A1_1 l1_1.length c1_1]) (t := 24) ?hr ?_; (case hd => rfl); (case hg => rfl); (case hr => first | (go_simp; done) | (go_simp; rfl)); intro gb278 hg w6 hbox hb; have BK278 := Aside0.mk (hbox); have GW278 := Aside0.mk ((by rw [hg]; exact (below_size (bS1 HB.out GE277.out)) : w.heap.size ≤ gb278)); have GE278 := Aside0.mk ((by rw [hg]; exact (below_size (bS1 HB.out GE277.out)) : w.heap.size ≤ gb278)); replace HB := Aside0.mk (below_step (bS1 HB.out GE277.out) hb); have NB277_278 := Aside0.mk (kN BK277.out hg); have NB278_277 := Aside0.mk (kM BK277.out hg); replace BK277 := Aside0.mk (kB BK277.out hb); clear hb hbox hg; have hnb7 := NB277_278.out; have hnc7 := NB278_277.out; have hcz8_0 : w6.cell? ⟨gb277, 0, none⟩ = some (.slice A0_0 l0_0.length c0_0) := (blk_cell BK277.out 0).trans rfl; have hcz8_1 : w6.cell? ⟨gb277, 1, none⟩ = some (.slice A0_1 l0_1.length c0_1) := (blk_cell BK277.out 1).trans rfl; have hfz8_0 := blk_frozen BK277.out 0; have hfz8_1 := blk_frozen BK277.out 1) | ((with_reducible refine gate_callee (f := 5) rfl ?_); refine goesL_ (some 19) rfl rfl Try.func5 (by kernel_rfl) rfl #[.agg #[.slice A0_0 l0_0.length c0_0, .slice A0_1 l0_1.length c0_1], .int .i64 1048576] rfl lU ?_; (with_reducible refine (laws_szArray.calls _ _ l0_0 _ _ l0_1 1048576 t279 _ ?side1 ?side2 ?side3 ?side4 A3.out).mono ?_); (case side1 => exact cU (Kd.C_below HR0_0.out HB.out)); (case side2 => exact HC0_0.out); (case side3 => exact cU (Kd.C_below HR0_1.out HB.out)); (case side4 => exact HC0_1.out); rintro e w9 ⟨rfl, hb⟩; refine ⟨_, rfl, ?_⟩; replace BK277 := Aside0.mk (kB BK277.out hb); replace BK278 := Aside0.mk (kB BK278.out hb); replace HB := Aside0.mk (below_step (bS2 HB.out GE277.out GE278.out) hb); (try clear hb); (try clear hb2); (try clear hk); (try clear hi)))
  go_ret
  exact ⟨by first | rfl | (simp [errW_none, errW_some] <;> rfl) | (simp [*, errW_none, errW_some] <;> rfl), by exact bS2 HB.out GE277.out GE278.out⟩
 ·
  rw [if_neg c4] at H
  have c4b0 : decide (t279 < 0) = false := decide_eq_false c4
  clear c4
  replace H := Option.bind_eq_some_iff.mp H
  obtain ⟨t280, A100, H⟩ := H
  replace H : (if t280 < 0 then (some true) else ((laws_toArray.f k l0_0 l0_1).bind fun bt281 => ((laws_toArray.f k l1_0 l1_1).bind fun bt287 => ((spec_Pick.f k bt281.1 bt281.2 bt287.1 bt287.2).bind fun bt293 => ((laws_toArray.f k l0_0 l0_1).bind fun bt301 => ((laws_toArray.f k l1_0 l1_1).bind fun bt308 => ((impl_Pick.f k bt301.1 bt301.2 bt308.1 bt308.2).bind fun bt315 => ((laws_eqArray.f k bt315.1 bt315.2.1 bt293.1 bt293.2.1).bind fun t323 => (if t323 = true then (laws_FnExactPick.j0 k bt293.2.2 bt315.2.2 (bt315.2.2 != bt293.2.2) l0_0 l0_1 l1_0 l1_1 bt293.1 bt293.2.1 bt301.1 bt301.2 bt308.1 bt308.2 bt315.1 bt315.2.1) else (laws_FnExactPick.j0 k bt293.2.2 bt315.2.2 true l0_0 l0_1 l1_0 l1_1 bt293.1 bt293.2.1 bt301.1 bt301.2 bt308.1 bt308.2 bt315.1 bt315.2.1)))))))))) = some r := H
  have A10 := Aside0.mk A100
  clear A100
  by_cases c11 : t280 < 0
  ·
   rw [if_pos c11] at H
   have c11b0 : decide (t280 < 0) = true := decide_eq_true c11
   clear c11
   obtain rfl := Option.some.inj H
   go_enter Try.func4, Try.ntmps4
   go_wp2_with (first | ((with_reducible refine gate_dst (N := 2) rfl ?_); refine box_event ?hg (N := 2) ?hd (cs := #[.slice A0_0 l0_0.length c0_0, .slice A0_1 l0_1.length c0_1]) (t := 24) ?hr ?_; (case hd => rfl); (case hg => rfl); (case hr => first | (go_simp; done) | (go_simp; rfl)); intro gb277 hg w12 hbox hb; have BK277 := Aside0.mk (hbox); have GW277 := Aside0.mk ((by rw [hg]; exact (below_size (bU HB.out)) : w.heap.size ≤ gb277)); have GE277 := Aside0.mk ((by rw [hg]; exact (below_size (bU HB.out)) : w.heap.size ≤ gb277)); replace HB := Aside0.mk (below_step (bU HB.out) hb); clear hb hbox hg) | ((with_reducible refine gate_dst (N := 3) rfl ?_); refine box_event ?hg (N := 3) ?hd (cs := #[.slice A1_0 l1_0.length c1_0, .slice A1_1 l1_1.length c1_1]) (t := 24) ?hr ?_; (case hd => rfl); (case hg => rfl); (case hr => first | (go_simp; done) | (go_simp; rfl)); intro gb278 hg w13 hbox hb; have BK278 := Aside0.mk (hbox); have GW278 := Aside0.mk ((by rw [hg]; exact (below_size (bS1 HB.out GE277.out)) : w.heap.size ≤ gb278)); have GE278 := Aside0.mk ((by rw [hg]; exact (below_size (bS1 HB.out GE277.out)) : w.heap.size ≤ gb278)); replace HB := Aside0.mk (below_step (bS1 HB.out GE277.out) hb); have NB277_278 := Aside0.mk (kN BK277.out hg); have NB278_277 := Aside0.mk (kM BK277.out hg); replace BK277 := Aside0.mk (kB BK277.out hb); clear hb hbox hg; have hnb14 := NB277_278.out; have hnc14 := NB278_277.out; have hcz15_0 : w13.cell? ⟨gb277, 0, none⟩ = some (.slice A0_0 l0_0.length c0_0) := (blk_cell BK277.out 0).trans rfl; have hcz15_1 : w13.cell? ⟨gb277, 1, none⟩ = some (.slice A0_1 l0_1.length c0_1) := (blk_cell BK277.out 1).trans rfl; have hfz15_0 := blk_frozen BK277.out 0; have hfz15_1 := blk_frozen BK277.out 1) | ((with_reducible refine gate_callee (f := 5) rfl ?_); refine goesL_ (some 19) rfl rfl Try.func5 (by kernel_rfl) rfl #[.agg #[.slice A0_0 l0_0.length c0_0, .slice A0_1 l0_1.length c0_1], .int .i64 1048576] rfl lU ?_; (with_reducible refine (laws_szArray.calls _ _ l0_0 _ _ l0_1 1048576 t279 _ ?side1 ?side2 ?side3 ?side4 A3.out).mono ?_); (case side1 => exact cU (Kd.C_below HR0_0.out HB.out)); (case side2 => exact HC0_0.out); (case side3 => exact cU (Kd.C_below HR0_1.out HB.out)); (case side4 => exact HC0_1.out); rintro e w16 ⟨rfl, hb⟩; refine ⟨_, rfl, ?_⟩; replace BK277 := Aside0.mk (kB BK277.out hb); replace BK278 := Aside0.mk (kB BK278.out hb); replace HB := Aside0.mk (below_step (bS2 HB.out GE277.out GE278.out) hb); (try clear hb); (try clear hb2); (try clear hk); (try clear hi); have hcz17_0 : w16.cell? ⟨gb278, 0, none⟩ = some (.slice A1_0 l1_0.length c1_0) := (blk_cell BK278.out 0).trans rfl; have hcz17_1 : w16.cell? ⟨gb278, 1, none⟩ = some (.slice A1_1 l1_1.length c1_1) := (blk_cell BK278.out 1).trans rfl; have hfz17_0 := blk_frozen BK278.out 0; have hfz17_1 := blk_frozen BK278.out 1) | ((with_reducible refine gate_callee (f := 5) rfl ?_); refine goesL_ (some 24) rfl rfl Try.func5 (by kernel_rfl) rfl #[.agg #[.slice A1_0 l1_0.length c1_0, .slice A1_1 l1_1.length c1_1], .int .i64 t279] rfl lU ?_; (with_reducible refine (laws_szArray.calls _ _ l1_0 _ _ l1_1 t279 t280 _ ?side1 ?side2 ?side3 ?side4 A10.out).mono ?_); (case side1 => exact cU (Kd.C_below HR1_0.out HB.out)); (case side2 => exact HC1_0.out); (case side3 => exact cU (Kd.C_below HR1_1.out HB.out)); (case side4 => exact HC1_1.out); rintro e w18 ⟨rfl, hb⟩; refine ⟨_, rfl, ?_⟩; replace BK277 := Aside0.mk (kB BK277.out hb); replace BK278 := Aside0.mk (kB BK278.out hb); replace HB := Aside0.mk (below_step (bS2 HB.out GE277.out GE278.out) hb); (try clear hb); (try clear hb2); (try clear hk); (try clear hi)))
   go_ret
   exact ⟨by first | rfl | (simp [errW_none, errW_some] <;> rfl) | (simp [*, errW_none, errW_some] <;> rfl), by exact bS2 HB.out GE277.out GE278.out⟩
  ·
   rw [if_neg c11] at H
   have c11b0 : decide (t280 < 0) = false := decide_eq_false c11
   clear c11
   replace H := Option.bind_eq_some_iff.mp H
   obtain ⟨⟨t281, t284⟩, A190, H⟩ := H
   replace H : ((laws_toArray.f k l1_0 l1_1).bind fun bt287 => ((spec_Pick.f k t281 t284 bt287.1 bt287.2).bind fun bt293 => ((laws_toArray.f k l0_0 l0_1).bind fun bt301 => ((laws_toArray.f k l1_0 l1_1).bind fun bt308 => ((impl_Pick.f k bt301.1 bt301.2 bt308.1 bt308.2).bind fun bt315 => ((laws_eqArray.f k bt315.1 bt315.2.1 bt293.1 bt293.2.1).bind fun t323 => (if t323 = true then (laws_FnExactPick.j0 k bt293.2.2 bt315.2.2 (bt315.2.2 != bt293.2.2) l0_0 l0_1 l1_0 l1_1 bt293.1 bt293.2.1 bt301.1 bt301.2 bt308.1 bt308.2 bt315.1 bt315.2.1) else (laws_FnExactPick.j0 k bt293.2.2 bt315.2.2 true l0_0 l0_1 l1_0 l1_1 bt293.1 bt293.2.1 bt301.1 bt301.2 bt308.1 bt308.2 bt315.1 bt315.2.1)))))))) = some r := H
   have A19 := Aside0.mk A190
   clear A190
   replace H := Option.bind_eq_some_iff.mp H
   obtain ⟨⟨t287, t290⟩, A200, H⟩ := H
   replace H : ((spec_Pick.f k t281 t284 t287 t290).bind fun bt293 => ((laws_toArray.f k l0_0 l0_1).bind fun bt301 => ((laws_toArray.f k l1_0 l1_1).bind fun bt308 => ((impl_Pick.f k bt301.1 bt301.2 bt308.1 bt308.2).bind fun bt315 => ((laws_eqArray.f k bt315.1 bt315.2.1 bt293.1 bt293.2.1).bind fun t323 => (if t323 = true then (laws_FnExactPick.j0 k bt293.2.2 bt315.2.2 (bt315.2.2 != bt293.2.2) l0_0 l0_1 l1_0 l1_1 bt293.1 bt293.2.1 bt301.1 bt301.2 bt308.1 bt308.2 bt315.1 bt315.2.1) else (laws_FnExactPick.j0 k bt293.2.2 bt315.2.2 true l0_0 l0_1 l1_0 l1_1 bt293.1 bt293.2.1 bt301.1 bt301.2 bt308.1 bt308.2 bt315.1 bt315.2.1))))))) = some r := H
   have A20 := Aside0.mk A200
   clear A200
   replace H := Option.bind_eq_some_iff.mp H
   obtain ⟨⟨t293, t296, t299⟩, A210, H⟩ := H
   replace H : ((laws_toArray.f k l0_0 l0_1).bind fun bt301 => ((laws_toArray.f k l1_0 l1_1).bind fun bt308 => ((impl_Pick.f k bt301.1 bt301.2 bt308.1 bt308.2).bind fun bt315 => ((laws_eqArray.f k bt315.1 bt315.2.1 t293 t296).bind fun t323 => (if t323 = true then (laws_FnExactPick.j0 k t299 bt315.2.2 (bt315.2.2 != t299) l0_0 l0_1 l1_0 l1_1 t293 t296 bt301.1 bt301.2 bt308.1 bt308.2 bt315.1 bt315.2.1) else (laws_FnExactPick.j0 k t299 bt315.2.2 true l0_0 l0_1 l1_0 l1_1 t293 t296 bt301.1 bt301.2 bt308.1 bt308.2 bt315.1 bt315.2.1)))))) = some r := H
   have A21 := Aside0.mk A210
   clear A210
   replace H := Option.bind_eq_some_iff.mp H
   obtain ⟨⟨t301, t304⟩, A220, H⟩ := H
   replace H : ((laws_toArray.f k l1_0 l1_1).bind fun bt308 => ((impl_Pick.f k t301 t304 bt308.1 bt308.2).bind fun bt315 => ((laws_eqArray.f k bt315.1 bt315.2.1 t293 t296).bind fun t323 => (if t323 = true then (laws_FnExactPick.j0 k t299 bt315.2.2 (bt315.2.2 != t299) l0_0 l0_1 l1_0 l1_1 t293 t296 t301 t304 bt308.1 bt308.2 bt315.1 bt315.2.1) else (laws_FnExactPick.j0 k t299 bt315.2.2 true l0_0 l0_1 l1_0 l1_1 t293 t296 t301 t304 bt308.1 bt308.2 bt315.1 bt315.2.1))))) = some r := H
   have A22 := Aside0.mk A220
   clear A220
   replace H := Option.bind_eq_some_iff.mp H
   obtain ⟨⟨t308, t311⟩, A230, H⟩ := H
   replace H : ((impl_Pick.f k t301 t304 t308 t311).bind fun bt315 => ((laws_eqArray.f k bt315.1 bt315.2.1 t293 t296).bind fun t323 => (if t323 = true then (laws_FnExactPick.j0 k t299 bt315.2.2 (bt315.2.2 != t299) l0_0 l0_1 l1_0 l1_1 t293 t296 t301 t304 t308 t311 bt315.1 bt315.2.1) else (laws_FnExactPick.j0 k t299 bt315.2.2 true l0_0 l0_1 l1_0 l1_1 t293 t296 t301 t304 t308 t311 bt315.1 bt315.2.1)))) = some r := H
   have A23 := Aside0.mk A230
   clear A230
   replace H := Option.bind_eq_some_iff.mp H
   obtain ⟨⟨t315, t318, t321⟩, A240, H⟩ := H
   replace H : ((laws_eqArray.f k t315 t318 t293 t296).bind fun t323 => (if t323 = true then (laws_FnExactPick.j0 k t299 t321 (t321 != t299) l0_0 l0_1 l1_0 l1_1 t293 t296 t301 t304 t308 t311 t315 t318) else (laws_FnExactPick.j0 k t299 t321 true l0_0 l0_1 l1_0 l1_1 t293 t296 t301 t304 t308 t311 t315 t318))) = some r := H
   have A24 := Aside0.mk A240
   clear A240
   have HC25 := Aside0.mk H
   clear H
   go_enter Try.func4, Try.ntmps4
   try go_wp2_with (first | ((with_reducible refine gate_dst (N := 2) rfl ?_); refine box_event ?hg (N := 2) ?hd (cs := #[.slice A0_0 l0_0.length c0_0, .slice A0_1 l0_1.length c0_1]) (t := 24) ?hr ?_; (case hd => rfl); (case hg => rfl); (case hr => first | (go_simp; done) | (go_simp; rfl)); intro gb277 hg w26 hbox hb; have BK277 := Aside0.mk (hbox); have GW277 := Aside0.mk ((by rw [hg]; exact (below_size (bU HB.out)) : w.heap.size ≤ gb277)); have GE277 := Aside0.mk ((by rw [hg]; exact (below_size (bU HB.out)) : w.heap.size ≤ gb277)); replace HB := Aside0.mk (below_step (bU HB.out) hb); clear hb hbox hg) | ((with_reducible refine gate_dst (N := 3) rfl ?_); refine box_event ?hg (N := 3) ?hd (cs := #[.slice A1_0 l1_0.length c1_0, .slice A1_1 l1_1.length c1_1]) (t := 24) ?hr ?_; (case hd => rfl); (case hg => rfl); (case hr => first | (go_simp; done) | (go_simp; rfl)); intro gb278 hg w27 hbox hb; have BK278 := Aside0.mk (hbox); have GW278 := Aside0.mk ((by rw [hg]; exact (below_size (bS1 HB.out GE277.out)) : w.heap.size ≤ gb278)); have GE278 := Aside0.mk ((by rw [hg]; exact (below_size (bS1 HB.out GE277.out)) : w.heap.size ≤ gb278)); replace HB := Aside0.mk (below_step (bS1 HB.out GE277.out) hb); have NB277_278 := Aside0.mk (kN BK277.out hg); have NB278_277 := Aside0.mk (kM BK277.out hg); replace BK277 := Aside0.mk (kB BK277.out hb); clear hb hbox hg; have hnb28 := NB277_278.out; have hnc28 := NB278_277.out; have hcz29_0 : w27.cell? ⟨gb277, 0, none⟩ = some (.slice A0_0 l0_0.length c0_0) := (blk_cell BK277.out 0).trans rfl; have hcz29_1 : w27.cell? ⟨gb277, 1, none⟩ = some (.slice A0_1 l0_1.length c0_1) := (blk_cell BK277.out 1).trans rfl; have hfz29_0 := blk_frozen BK277.out 0; have hfz29_1 := blk_frozen BK277.out 1) | ((with_reducible refine gate_callee (f := 5) rfl ?_); refine goesL_ (some 19) rfl rfl Try.func5 (by kernel_rfl) rfl #[.agg #[.slice A0_0 l0_0.length c0_0, .slice A0_1 l0_1.length c0_1], .int .i64 1048576] rfl lU ?_; (with_reducible refine (laws_szArray.calls _ _ l0_0 _ _ l0_1 1048576 t279 _ ?side1 ?side2 ?side3 ?side4 A3.out).mono ?_); (case side1 => exact cU (Kd.C_below HR0_0.out HB.out)); (case side2 => exact HC0_0.out); (case side3 => exact cU (Kd.C_below HR0_1.out HB.out)); (case side4 => exact HC0_1.out); rintro e w30 ⟨rfl, hb⟩; refine ⟨_, rfl, ?_⟩; replace BK277 := Aside0.mk (kB BK277.out hb); replace BK278 := Aside0.mk (kB BK278.out hb); replace HB := Aside0.mk (below_step (bS2 HB.out GE277.out GE278.out) hb); (try clear hb); (try clear hb2); (try clear hk); (try clear hi); have hcz31_0 : w30.cell? ⟨gb278, 0, none⟩ = some (.slice A1_0 l1_0.length c1_0) := (blk_cell BK278.out 0).trans rfl; have hcz31_1 : w30.cell? ⟨gb278, 1, none⟩ = some (.slice A1_1 l1_1.length c1_1) := (blk_cell BK278.out 1).trans rfl; have hfz31_0 := blk_frozen BK278.out 0; have hfz31_1 := blk_frozen BK278.out 1) | ((with_reducible refine gate_callee (f := 5) rfl ?_); refine goesL_ (some 24) rfl rfl Try.func5 (by kernel_rfl) rfl #[.agg #[.slice A1_0 l1_0.length c1_0, .slice A1_1 l1_1.length c1_1], .int .i64 t279] rfl lU ?_; (with_reducible refine (laws_szArray.calls _ _ l1_0 _ _ l1_1 t279 t280 _ ?side1 ?side2 ?side3 ?side4 A10.out).mono ?_); (case side1 => exact cU (Kd.C_below HR1_0.out HB.out)); (case side2 => exact HC1_0.out); (case side3 => exact cU (Kd.C_below HR1_1.out HB.out)); (case side4 => exact HC1_1.out); rintro e w32 ⟨rfl, hb⟩; refine ⟨_, rfl, ?_⟩; replace BK277 := Aside0.mk (kB BK277.out hb); replace BK278 := Aside0.mk (kB BK278.out hb); replace HB := Aside0.mk (below_step (bS2 HB.out GE277.out GE278.out) hb); (try clear hb); (try clear hb2); (try clear hk); (try clear hi)))
   replace BK277 := Aside0.mk (blk_drew BK277.out)
   replace BK278 := Aside0.mk (blk_drew BK278.out)
   replace HB := Aside0.mk (below_drew1 HB.out)
   refine start_ (n := 11) (S := fun w' => w'.cell? ⟨gb277, 0, none⟩ = some (.slice A0_0 l0_0.length c0_0) ∧ w'.cell? ⟨gb277, 1, none⟩ = some (.slice A0_1 l0_1.length c0_1) ∧ w'.cell? ⟨gb278, 0, none⟩ = some (.slice A1_0 l1_0.length c1_0) ∧ w'.cell? ⟨gb278, 1, none⟩ = some (.slice A1_1 l1_1.length c1_1)) (ds := []) #[false, false, false, false, false, false, false, false, false, false, false] (by kernel_rfl) rfl rfl ⟨(blk_cell BK277.out 0).trans rfl, (blk_cell BK277.out 1).trans rfl, (blk_cell BK278.out 0).trans rfl, (blk_cell BK278.out 1).trans rfl⟩ (fun hHeld => ?_); refine with_tabW laws_FnExactPick.tab8 laws_FnExactPick.bits8 (fun HT_ HW_ => ?_)
   generalize w32.drew = w33 at BK277 BK278 HB hHeld ⊢
   refine take_ (i := 0) (N := some 28) (v := ?_) (a' := ?_) #[true, false, false, false, false, false, false, false, false, false, false] rfl rfl (take_ofW HT_.out HW_.out (by kernel_rfl)) (fun _ _ _ h => h) (Or.inl ⟨by rfl, ?_⟩) hHeld ?_ ?_
   rotate_left
   ·
    rintro w' ⟨s0, s1, s2, s3⟩
    go_simp
    with_reducible rfl
   rotate_left
   ·
    simp only [Act.put, List.setIfInBounds_toArray, List.set_cons_zero, List.set_cons_succ, i64_w, i32_w]
    rfl
   refine take_ (i := 2) (N := some 30) (v := ?_) (a' := ?_) #[true, false, true, false, false, false, false, false, false, false, false] rfl rfl (take_ofW HT_.out HW_.out (by kernel_rfl)) (fun _ _ _ h => h) (Or.inl ⟨by rfl, ?_⟩) hHeld ?_ ?_
   rotate_left
   ·
    rintro w' ⟨s0, s1, s2, s3⟩
    go_simp
    with_reducible rfl
   rotate_left
   ·
    simp only [Act.put, List.setIfInBounds_toArray, List.set_cons_zero, List.set_cons_succ, i64_w, i32_w]
    rfl
   refine join_ (σ := Value × Value × Value × Value × Value × Value × Nat) 2 #[true, true, true, true, true, true, true, true, true, false, false] (fun s_ => [(29, .agg #[s_.1, s_.2.1]), (31, .agg #[s_.2.2.1, s_.2.2.2.1]), (32, .tuple #[.agg #[s_.2.2.2.2.1, s_.2.2.2.2.2.1], .int .i64 t299]), (6, .pointer (some ⟨s_.2.2.2.2.2.2, 0, none⟩)), (27, .tuple #[.agg #[s_.2.2.2.2.1, s_.2.2.2.2.2.1], .int .i64 t299]), (33, .agg #[s_.2.2.2.2.1, s_.2.2.2.2.2.1]), (34, .int .i64 t299)]) (fun s_ w' => (w'.cell? ⟨gb277, 0, none⟩ = some (.slice A0_0 l0_0.length c0_0) ∧ w'.cell? ⟨gb277, 1, none⟩ = some (.slice A0_1 l0_1.length c0_1) ∧ w'.cell? ⟨gb278, 0, none⟩ = some (.slice A1_0 l1_0.length c1_0) ∧ w'.cell? ⟨gb278, 1, none⟩ = some (.slice A1_1 l1_1.length c1_1)) ∧ (Kd.R (Kd.int .i64) 3 w' w.heap.size (fun k_ => some k_ ≠ (s_.2.1 : Value).ownBlock ∧ some k_ ≠ (s_.2.2.1 : Value).ownBlock ∧ some k_ ≠ (s_.2.2.2.1 : Value).ownBlock ∧ some k_ ≠ (s_.2.2.2.2.1 : Value).ownBlock ∧ some k_ ≠ (s_.2.2.2.2.2.1 : Value).ownBlock) s_.1 t281) ∧ (Kd.R (Kd.int .i64) 3 w' w.heap.size (fun k_ => some k_ ≠ (s_.1 : Value).ownBlock ∧ some k_ ≠ (s_.2.2.1 : Value).ownBlock ∧ some k_ ≠ (s_.2.2.2.1 : Value).ownBlock ∧ some k_ ≠ (s_.2.2.2.2.1 : Value).ownBlock ∧ some k_ ≠ (s_.2.2.2.2.2.1 : Value).ownBlock) s_.2.1 t284) ∧ (Kd.R (Kd.int .i64) 3 w' w.heap.size (fun k_ => some k_ ≠ (s_.1 : Value).ownBlock ∧ some k_ ≠ (s_.2.1 : Value).ownBlock ∧ some k_ ≠ (s_.2.2.2.1 : Value).ownBlock ∧ some k_ ≠ (s_.2.2.2.2.1 : Value).ownBlock ∧ some k_ ≠ (s_.2.2.2.2.2.1 : Value).ownBlock) s_.2.2.1 t287) ∧ (Kd.R (Kd.int .i64) 3 w' w.heap.size (fun k_ => some k_ ≠ (s_.1 : Value).ownBlock ∧ some k_ ≠ (s_.2.1 : Value).ownBlock ∧ some k_ ≠ (s_.2.2.1 : Value).ownBlock ∧ some k_ ≠ (s_.2.2.2.2.1 : Value).ownBlock ∧ some k_ ≠ (s_.2.2.2.2.2.1 : Value).ownBlock) s_.2.2.2.1 t290) ∧ (Kd.R (Kd.int .i64) 3 w' w.heap.size (fun k_ => some k_ ≠ (s_.1 : Value).ownBlock ∧ some k_ ≠ (s_.2.1 : Value).ownBlock ∧ some k_ ≠ (s_.2.2.1 : Value).ownBlock ∧ some k_ ≠ (s_.2.2.2.1 : Value).ownBlock ∧ some k_ ≠ (s_.2.2.2.2.2.1 : Value).ownBlock) s_.2.2.2.2.1 t293) ∧ (Kd.R (Kd.int .i64) 3 w' w.heap.size (fun k_ => some k_ ≠ (s_.1 : Value).ownBlock ∧ some k_ ≠ (s_.2.1 : Value).ownBlock ∧ some k_ ≠ (s_.2.2.1 : Value).ownBlock ∧ some k_ ≠ (s_.2.2.2.1 : Value).ownBlock ∧ some k_ ≠ (s_.2.2.2.2.1 : Value).ownBlock) s_.2.2.2.2.2.1 t296) ∧ (w'.heap[gb277]? = some (.cells #[.slice A0_0 l0_0.length c0_0, .slice A0_1 l0_1.length c0_1] 24 (0, 0))) ∧ (w'.heap[gb278]? = some (.cells #[.slice A1_0 l1_0.length c1_0, .slice A1_1 l1_1.length c1_1] 24 (0, 0))) ∧ (w'.heap[s_.2.2.2.2.2.2]? = some (.cells #[.slice none 0 0, .slice none 0 0] 28 (0, 0))) ∧ (w.heap.size ≤ s_.2.2.2.2.2.2) ∧ (w.heap.size ≤ s_.2.2.2.2.2.2) ∧ (gb277 ≠ s_.2.2.2.2.2.2) ∧ (s_.2.2.2.2.2.2 ≠ gb277) ∧ (gb278 ≠ s_.2.2.2.2.2.2) ∧ (s_.2.2.2.2.2.2 ≠ gb278) ∧ (Below w.heap.size w w')) ?_ ?_
   rotate_left
   ·
    intro hCont
    refine two_ (i := 1) (j := 8) (Ni := some 29) (Nj := some 6) #[true, true, true, false, false, false, false, false, false, false, false] #[true, false, true, false, false, false, false, false, true, false, false] rfl rfl rfl rfl (two_of HT_.out (by kernel_rfl)) (by decide) (by decide) (fun K hK => ?_) (fun K hK => ?_)
    ·
     skip
     refine goes_ Try.func7 (by kernel_rfl) rfl #[.agg #[.slice A0_0 l0_0.length c0_0, .slice A0_1 l0_1.length c0_1]] (by rfl) rfl rfl lU ?_
     with_reducible refine (laws_toArray.calls k _ _ l0_0 _ _ l0_1 t281 t284 _ ?side1 ?side2 ?side3 ?side4 A19.out).mono ?_
     (case side1 => exact cU (Kd.C_below HR0_0.out HB.out))
     (case side2 => exact HC0_0.out)
     (case side3 => exact cU (Kd.C_below HR0_1.out HB.out))
     (case side4 => exact HC0_1.out)
     rintro e w34 ⟨v282, v285, rfl, ho0, ho1, hb⟩
     refine ⟨_, rfl, ?_⟩
     have HO283 := Aside0.mk (Kd.R_lower ho0 (below_size (bS2 HB.out GE277.out GE278.out)))
     have HO286 := Aside0.mk (Kd.R_lower ho1 (below_size (bS2 HB.out GE277.out GE278.out)))
     replace BK277 := Aside0.mk (kB BK277.out hb)
     replace BK278 := Aside0.mk (kB BK278.out hb)
     replace HB := Aside0.mk (below_step (bS2 HB.out GE277.out GE278.out) hb)
     (try clear hb)
     (try clear hb2)
     (try clear hk)
     (try clear hi)
     (try clear ho0)
     (try clear ho1)
     refine hK.out _ _ ⟨(blk_cell BK277.out 0).trans rfl, (blk_cell BK277.out 1).trans rfl, (blk_cell BK278.out 0).trans rfl, (blk_cell BK278.out 1).trans rfl⟩ (fun hHeld => ?_)
     clear hK K
     refine norm_ (a' := ?_) ?_ ?_
     rotate_left
     ·
      show Act.put _ (some 29) _ = _
      simp only [Act.put, List.setIfInBounds_toArray, List.set_cons_zero, List.set_cons_succ, i64_w, i32_w]
      rfl
     refine two_ (i := 3) (j := 8) (Ni := some 31) (Nj := some 6) #[true, true, true, true, false, false, false, false, false, false, false] #[true, true, true, false, false, false, false, false, true, false, false] rfl rfl rfl rfl (two_of HT_.out (by kernel_rfl)) (by decide) (by decide) (fun K hK => ?_) (fun K hK => ?_)
     ·
      skip
      refine goes_ Try.func7 (by kernel_rfl) rfl #[.agg #[.slice A1_0 l1_0.length c1_0, .slice A1_1 l1_1.length c1_1]] (by rfl) rfl rfl lU ?_
      with_reducible refine (laws_toArray.calls k _ _ l1_0 _ _ l1_1 t287 t290 _ ?side1 ?side2 ?side3 ?side4 A20.out).mono ?_
      (case side1 => exact cU (Kd.C_below HR1_0.out HB.out))
      (case side2 => exact HC1_0.out)
      (case side3 => exact cU (Kd.C_below HR1_1.out HB.out))
      (case side4 => exact HC1_1.out)
      rintro e w35 ⟨v288, v291, rfl, ho0, ho1, hb⟩
      refine ⟨_, rfl, ?_⟩
      have HO289 := Aside0.mk (Kd.R_lower (Kd.R_new' (Kd.R_new' ho0 (Kd.R_lt (RU HO283.out))) (Kd.R_lt (RU HO286.out))) (below_size (bS2 HB.out GE277.out GE278.out)))
      have HO292 := Aside0.mk (Kd.R_lower (Kd.R_new' (Kd.R_new' ho1 (Kd.R_lt (RU HO283.out))) (Kd.R_lt (RU HO286.out))) (below_size (bS2 HB.out GE277.out GE278.out)))
      replace HO283 := Aside0.mk (Kd.R_mono (Kd.R_told (Kd.R_told (Kd.R_old (RU HO283.out) hb) (Kd.R_base ho0)) (Kd.R_base ho1)) (fun _ h_ => h_.1))
      replace HO286 := Aside0.mk (Kd.R_mono (Kd.R_told (Kd.R_told (Kd.R_old (RU HO286.out) hb) (Kd.R_base ho0)) (Kd.R_base ho1)) (fun _ h_ => h_.1))
      replace BK277 := Aside0.mk (kB BK277.out hb)
      replace BK278 := Aside0.mk (kB BK278.out hb)
      replace HB := Aside0.mk (below_step (bS2 HB.out GE277.out GE278.out) hb)
      (try clear hb)
      (try clear hb2)
      (try clear hk)
      (try clear hi)
      (try clear ho0)
      (try clear ho1)
      obtain ⟨Ao36, co36, eo36⟩ := Kd.R_slice HO283.out
      (first | subst eo36 | (injection eo36 with f1_ f2_ f3_; have f4_ := f1_.symm; have f5_ := f3_.symm; clear f1_ f2_ f3_; subst f4_; subst f5_))
      obtain ⟨Ao37, co37, eo37⟩ := Kd.R_slice HO286.out
      (first | subst eo37 | (injection eo37 with f1_ f2_ f3_; have f4_ := f1_.symm; have f5_ := f3_.symm; clear f1_ f2_ f3_; subst f4_; subst f5_))
      obtain ⟨Ao38, co38, eo38⟩ := Kd.R_slice HO289.out
      (first | subst eo38 | (injection eo38 with f1_ f2_ f3_; have f4_ := f1_.symm; have f5_ := f3_.symm; clear f1_ f2_ f3_; subst f4_; subst f5_))
      obtain ⟨Ao39, co39, eo39⟩ := Kd.R_slice HO292.out
      (first | subst eo39 | (injection eo39 with f1_ f2_ f3_; have f4_ := f1_.symm; have f5_ := f3_.symm; clear f1_ f2_ f3_; subst f4_; subst f5_))
      refine hK.out _ _ ⟨(blk_cell BK277.out 0).trans rfl, (blk_cell BK277.out 1).trans rfl, (blk_cell BK278.out 0).trans rfl, (blk_cell BK278.out 1).trans rfl⟩ (fun hHeld => ?_)
      clear hK K
      refine norm_ (a' := ?_) ?_ ?_
      rotate_left
      ·
       show Act.put _ (some 31) _ = _
       simp only [Act.put, List.setIfInBounds_toArray, List.set_cons_zero, List.set_cons_succ, i64_w, i32_w]
       rfl
      refine two_ (i := 4) (j := 8) (Ni := some 32) (Nj := some 6) #[true, true, true, true, true, false, false, false, false, false, false] #[true, true, true, true, false, false, false, false, true, false, false] rfl rfl rfl rfl (two_of HT_.out (by kernel_rfl)) (by decide) (by decide) (fun K hK => ?_) (fun K hK => ?_)
      ·
       skip
       refine goes_ Try.func14 (by kernel_rfl) rfl #[.agg #[.slice Ao36 t281.length co36, .slice Ao37 t284.length co37], .agg #[.slice Ao38 t287.length co38, .slice Ao39 t290.length co39]] (by rfl) rfl rfl lU ?_
       with_reducible refine (spec_Pick.calls k _ _ t281 _ _ t284 _ _ t287 _ _ t290 t293 t296 t299 _ ?side1 ?side2 ?side3 ?side4 ?side5 ?side6 ?side7 ?side8 A21.out).mono ?_
       (case side1 => exact cU (Kd.R_reads' HO283.out).2.2)
       (case side2 => exact (Kd.R_reads' HO283.out).2.1)
       (case side3 => exact cU (Kd.R_reads' HO286.out).2.2)
       (case side4 => exact (Kd.R_reads' HO286.out).2.1)
       (case side5 => exact cU (Kd.R_reads' HO289.out).2.2)
       (case side6 => exact (Kd.R_reads' HO289.out).2.1)
       (case side7 => exact cU (Kd.R_reads' HO292.out).2.2)
       (case side8 => exact (Kd.R_reads' HO292.out).2.1)
       rintro e w40 ⟨v294, v297, rfl, ho0, ho1, hb⟩
       refine ⟨_, rfl, ?_⟩
       have HO295 := Aside0.mk (Kd.R_lower (Kd.R_new' (Kd.R_new' (Kd.R_new' (Kd.R_new' ho0 (Kd.R_lt (RU HO283.out))) (Kd.R_lt (RU HO286.out))) (Kd.R_lt (RU HO289.out))) (Kd.R_lt (RU HO292.out))) (below_size (bS2 HB.out GE277.out GE278.out)))
       have HO298 := Aside0.mk (Kd.R_lower (Kd.R_new' (Kd.R_new' (Kd.R_new' (Kd.R_new' ho1 (Kd.R_lt (RU HO283.out))) (Kd.R_lt (RU HO286.out))) (Kd.R_lt (RU HO289.out))) (Kd.R_lt (RU HO292.out))) (below_size (bS2 HB.out GE277.out GE278.out)))
       replace HO283 := Aside0.mk (Kd.R_mono (Kd.R_told (Kd.R_told (Kd.R_old (RU HO283.out) hb) (Kd.R_base ho0)) (Kd.R_base ho1)) (fun _ h_ => h_.1))
       replace HO286 := Aside0.mk (Kd.R_mono (Kd.R_told (Kd.R_told (Kd.R_old (RU HO286.out) hb) (Kd.R_base ho0)) (Kd.R_base ho1)) (fun _ h_ => h_.1))
       replace HO289 := Aside0.mk (Kd.R_mono (Kd.R_told (Kd.R_told (Kd.R_old (RU HO289.out) hb) (Kd.R_base ho0)) (Kd.R_base ho1)) (fun _ h_ => h_.1))
       replace HO292 := Aside0.mk (Kd.R_mono (Kd.R_told (Kd.R_told (Kd.R_old (RU HO292.out) hb) (Kd.R_base ho0)) (Kd.R_base ho1)) (fun _ h_ => h_.1))
       replace BK277 := Aside0.mk (kB BK277.out hb)
       replace BK278 := Aside0.mk (kB BK278.out hb)
       replace HB := Aside0.mk (below_step (bS2 HB.out GE277.out GE278.out) hb)
       (try clear hb)
       (try clear hb2)
       (try clear hk)
       (try clear hi)
       (try clear ho0)
       (try clear ho1)
       refine hK.out _ _ ⟨(blk_cell BK277.out 0).trans rfl, (blk_cell BK277.out 1).trans rfl, (blk_cell BK278.out 0).trans rfl, (blk_cell BK278.out 1).trans rfl⟩ (fun hHeld => ?_)
       clear hK K
       refine norm_ (a' := ?_) ?_ ?_
       rotate_left
       ·
        show Act.put _ (some 32) _ = _
        simp only [Act.put, List.setIfInBounds_toArray, List.set_cons_zero, List.set_cons_succ, i64_w, i32_w]
        rfl
       refine pure_ (i := 5) (N := some 27) (v := ?_) (a' := ?_) #[true, true, true, true, true, true, false, false, false, false, false] rfl rfl (any_of HT_.out (by kernel_rfl)) (fun _ _ _ h => h) (Or.inl ⟨by rfl, ?_⟩) ?_ ?_
       rotate_left
       ·
        intro w'
        go_simp
        with_reducible rfl
       rotate_left
       ·
        simp only [Act.put, List.setIfInBounds_toArray, List.set_cons_zero, List.set_cons_succ, i64_w, i32_w]
        rfl
       refine pure_ (i := 6) (N := some 33) (v := ?_) (a' := ?_) #[true, true, true, true, true, true, true, false, false, false, false] rfl rfl (any_of HT_.out (by kernel_rfl)) (fun _ _ _ h => h) (Or.inl ⟨by rfl, ?_⟩) ?_ ?_
       rotate_left
       ·
        intro w'
        go_simp
        with_reducible rfl
       rotate_left
       ·
        simp only [Act.put, List.setIfInBounds_toArray, List.set_cons_zero, List.set_cons_succ, i64_w, i32_w]
        rfl
       refine pure_ (i := 7) (N := some 34) (v := ?_) (a' := ?_) #[true, true, true, true, true, true, true, true, false, false, false] rfl rfl (any_of HT_.out (by kernel_rfl)) (fun _ _ _ h => h) (Or.inl ⟨by rfl, ?_⟩) ?_ ?_
       rotate_left
       ·
        intro w'
        go_simp
        with_reducible rfl
       rotate_left
       ·
        simp only [Act.put, List.setIfInBounds_toArray, List.set_cons_zero, List.set_cons_succ, i64_w, i32_w]
        rfl
       refine one_ (i := 8) (N := some 6) #[true, true, true, true, true, true, true, true, true, false, false] rfl rfl (one_of HT_.out (by kernel_rfl)) (by decide) (fun K hK => ?_)
       refine box_step ?hg (N := 6) ?hd (cs := #[.slice none 0 0, .slice none 0 0]) (t := 28) ?hr ?_; (case hd => rfl); (case hg => rfl); (case hr => first | (go_simp; done) | (go_simp; rfl))
       intro gb300 hg w41 hbox hb
       replace HO283 := Aside0.mk (Kd.R_below (RU HO283.out) hb)
       replace HO286 := Aside0.mk (Kd.R_below (RU HO286.out) hb)
       replace HO289 := Aside0.mk (Kd.R_below (RU HO289.out) hb)
       replace HO292 := Aside0.mk (Kd.R_below (RU HO292.out) hb)
       replace HO295 := Aside0.mk (Kd.R_below (RU HO295.out) hb)
       replace HO298 := Aside0.mk (Kd.R_below (RU HO298.out) hb)
       have BK300 := Aside0.mk (hbox)
       have GW300 := Aside0.mk ((by rw [hg]; exact (below_size (bS2 HB.out GE277.out GE278.out)) : w.heap.size ≤ gb300))
       have GE300 := Aside0.mk ((by rw [hg]; exact (below_size (bS2 HB.out GE277.out GE278.out)) : w.heap.size ≤ gb300))
       replace HB := Aside0.mk (below_step (bS2 HB.out GE277.out GE278.out) hb)
       have NB277_300 := Aside0.mk (kN BK277.out hg)
       have NB300_277 := Aside0.mk (kM BK277.out hg)
       replace BK277 := Aside0.mk (kB BK277.out hb)
       have NB278_300 := Aside0.mk (kN BK278.out hg)
       have NB300_278 := Aside0.mk (kM BK278.out hg)
       replace BK278 := Aside0.mk (kB BK278.out hb)
       clear hb hbox hg
       refine hK.out _ _ ⟨(blk_cell BK277.out 0).trans rfl, (blk_cell BK277.out 1).trans rfl, (blk_cell BK278.out 0).trans rfl, (blk_cell BK278.out 1).trans rfl⟩ (fun hHeld => ?_)
       clear hK K
       refine norm_ (a' := ?_) ?_ ?_
       rotate_left
       ·
        show Act.put _ (some 6) _ = _
        simp only [Act.put, List.setIfInBounds_toArray, List.set_cons_zero, List.set_cons_succ, i64_w, i32_w]
        rfl
       exact norm_ (by simp only [putAll, Act.put, List.setIfInBounds_toArray, List.set_cons_zero, List.set_cons_succ]) (hCont (.slice Ao36 t281.length co36, .slice Ao37 t284.length co37, .slice Ao38 t287.length co38, .slice Ao39 t290.length co39, v294, v297, gb300) _ ⟨hHeld, (by refine RU ?_; exact Kd.R_mono HO283.out (fun _ hk => ⟨hk.1.1.1.1, ⟨hk.1.1.1.2, ⟨hk.1.1.2, ⟨hk.1.2, hk.2⟩⟩⟩⟩)), (by refine RU ?_; exact Kd.R_mono HO286.out (fun _ hk => ⟨hk.1.1.1.1, ⟨hk.1.1.1.2, ⟨hk.1.1.2, ⟨hk.1.2, hk.2⟩⟩⟩⟩)), (by refine RU ?_; exact Kd.R_mono HO289.out (fun _ hk => ⟨hk.1.1.1.2, ⟨hk.1.1.2, ⟨hk.1.1.1.1, ⟨hk.1.2, hk.2⟩⟩⟩⟩)), (by refine RU ?_; exact Kd.R_mono HO292.out (fun _ hk => ⟨hk.1.1.1.2, ⟨hk.1.1.2, ⟨hk.1.1.1.1, ⟨hk.1.2, hk.2⟩⟩⟩⟩)), (by refine RU ?_; exact Kd.R_mono HO295.out (fun _ hk => ⟨hk.1.1.1.2, ⟨hk.1.1.2, ⟨hk.1.2, ⟨hk.2, hk.1.1.1.1⟩⟩⟩⟩)), (by refine RU ?_; exact Kd.R_mono HO298.out (fun _ hk => ⟨hk.1.1.1.2, ⟨hk.1.1.2, ⟨hk.1.2, ⟨hk.2, hk.1.1.1.1⟩⟩⟩⟩)), (kU BK277.out), (kU BK278.out), (kU BK300.out), GW300.out, GE300.out, NB277_300.out, NB300_277.out, NB278_300.out, NB300_278.out, (bS3 HB.out GE277.out GE278.out GE300.out)⟩)
      ·
       skip
       refine box_step ?hg (N := 6) ?hd (cs := #[.slice none 0 0, .slice none 0 0]) (t := 28) ?hr ?_; (case hd => rfl); (case hg => rfl); (case hr => first | (go_simp; done) | (go_simp; rfl))
       intro gb300 hg w36 hbox hb
       replace HO283 := Aside0.mk (Kd.R_below (RU HO283.out) hb)
       replace HO286 := Aside0.mk (Kd.R_below (RU HO286.out) hb)
       replace HO289 := Aside0.mk (Kd.R_below (RU HO289.out) hb)
       replace HO292 := Aside0.mk (Kd.R_below (RU HO292.out) hb)
       have BK300 := Aside0.mk (hbox)
       have GW300 := Aside0.mk ((by rw [hg]; exact (below_size (bS2 HB.out GE277.out GE278.out)) : w.heap.size ≤ gb300))
       have GE300 := Aside0.mk ((by rw [hg]; exact (below_size (bS2 HB.out GE277.out GE278.out)) : w.heap.size ≤ gb300))
       replace HB := Aside0.mk (below_step (bS2 HB.out GE277.out GE278.out) hb)
       have NB277_300 := Aside0.mk (kN BK277.out hg)
       have NB300_277 := Aside0.mk (kM BK277.out hg)
       replace BK277 := Aside0.mk (kB BK277.out hb)
       have NB278_300 := Aside0.mk (kN BK278.out hg)
       have NB300_278 := Aside0.mk (kM BK278.out hg)
       replace BK278 := Aside0.mk (kB BK278.out hb)
       clear hb hbox hg
       obtain ⟨Ao37, co37, eo37⟩ := Kd.R_slice HO283.out
       (first | subst eo37 | (injection eo37 with f1_ f2_ f3_; have f4_ := f1_.symm; have f5_ := f3_.symm; clear f1_ f2_ f3_; subst f4_; subst f5_))
       obtain ⟨Ao38, co38, eo38⟩ := Kd.R_slice HO286.out
       (first | subst eo38 | (injection eo38 with f1_ f2_ f3_; have f4_ := f1_.symm; have f5_ := f3_.symm; clear f1_ f2_ f3_; subst f4_; subst f5_))
       obtain ⟨Ao39, co39, eo39⟩ := Kd.R_slice HO289.out
       (first | subst eo39 | (injection eo39 with f1_ f2_ f3_; have f4_ := f1_.symm; have f5_ := f3_.symm; clear f1_ f2_ f3_; subst f4_; subst f5_))
       obtain ⟨Ao40, co40, eo40⟩ := Kd.R_slice HO292.out
       (first | subst eo40 | (injection eo40 with f1_ f2_ f3_; have f4_ := f1_.symm; have f5_ := f3_.symm; clear f1_ f2_ f3_; subst f4_; subst f5_))
       refine hK.out _ _ ⟨(blk_cell BK277.out 0).trans rfl, (blk_cell BK277.out 1).trans rfl, (blk_cell BK278.out 0).trans rfl, (blk_cell BK278.out 1).trans rfl⟩ (fun hHeld => ?_)
       clear hK K
       refine norm_ (a' := ?_) ?_ ?_
       rotate_left
       ·
        show Act.put _ (some 6) _ = _
        simp only [Act.put, List.setIfInBounds_toArray, List.set_cons_zero, List.set_cons_succ, i64_w, i32_w]
        rfl
       refine one_ (i := 4) (N := some 32) #[true, true, true, true, true, false, false, false, true, false, false] rfl rfl (one_of HT_.out (by kernel_rfl)) (by decide) (fun K hK => ?_)
       refine goes_ Try.func14 (by kernel_rfl) rfl #[.agg #[.slice Ao37 t281.length co37, .slice Ao38 t284.length co38], .agg #[.slice Ao39 t287.length co39, .slice Ao40 t290.length co40]] (by rfl) rfl rfl lU ?_
       with_reducible refine (spec_Pick.calls k _ _ t281 _ _ t284 _ _ t287 _ _ t290 t293 t296 t299 _ ?side1 ?side2 ?side3 ?side4 ?side5 ?side6 ?side7 ?side8 A21.out).mono ?_
       (case side1 => exact cU (Kd.R_reads' HO283.out).2.2)
       (case side2 => exact (Kd.R_reads' HO283.out).2.1)
       (case side3 => exact cU (Kd.R_reads' HO286.out).2.2)
       (case side4 => exact (Kd.R_reads' HO286.out).2.1)
       (case side5 => exact cU (Kd.R_reads' HO289.out).2.2)
       (case side6 => exact (Kd.R_reads' HO289.out).2.1)
       (case side7 => exact cU (Kd.R_reads' HO292.out).2.2)
       (case side8 => exact (Kd.R_reads' HO292.out).2.1)
       rintro e w41 ⟨v294, v297, rfl, ho0, ho1, hb⟩
       refine ⟨_, rfl, ?_⟩
       have HO295 := Aside0.mk (Kd.R_lower (Kd.R_new' (Kd.R_new' (Kd.R_new' (Kd.R_new' ho0 (Kd.R_lt (RU HO283.out))) (Kd.R_lt (RU HO286.out))) (Kd.R_lt (RU HO289.out))) (Kd.R_lt (RU HO292.out))) (below_size (bS3 HB.out GE277.out GE278.out GE300.out)))
       have HO298 := Aside0.mk (Kd.R_lower (Kd.R_new' (Kd.R_new' (Kd.R_new' (Kd.R_new' ho1 (Kd.R_lt (RU HO283.out))) (Kd.R_lt (RU HO286.out))) (Kd.R_lt (RU HO289.out))) (Kd.R_lt (RU HO292.out))) (below_size (bS3 HB.out GE277.out GE278.out GE300.out)))
       replace HO283 := Aside0.mk (Kd.R_mono (Kd.R_told (Kd.R_told (Kd.R_old (RU HO283.out) hb) (Kd.R_base ho0)) (Kd.R_base ho1)) (fun _ h_ => h_.1))
       replace HO286 := Aside0.mk (Kd.R_mono (Kd.R_told (Kd.R_told (Kd.R_old (RU HO286.out) hb) (Kd.R_base ho0)) (Kd.R_base ho1)) (fun _ h_ => h_.1))
       replace HO289 := Aside0.mk (Kd.R_mono (Kd.R_told (Kd.R_told (Kd.R_old (RU HO289.out) hb) (Kd.R_base ho0)) (Kd.R_base ho1)) (fun _ h_ => h_.1))
       replace HO292 := Aside0.mk (Kd.R_mono (Kd.R_told (Kd.R_told (Kd.R_old (RU HO292.out) hb) (Kd.R_base ho0)) (Kd.R_base ho1)) (fun _ h_ => h_.1))
       replace BK277 := Aside0.mk (kB BK277.out hb)
       replace BK278 := Aside0.mk (kB BK278.out hb)
       replace BK300 := Aside0.mk (kB BK300.out hb)
       replace HB := Aside0.mk (below_step (bS3 HB.out GE277.out GE278.out GE300.out) hb)
       (try clear hb)
       (try clear hb2)
       (try clear hk)
       (try clear hi)
       (try clear ho0)
       (try clear ho1)
       refine hK.out _ _ ⟨(blk_cell BK277.out 0).trans rfl, (blk_cell BK277.out 1).trans rfl, (blk_cell BK278.out 0).trans rfl, (blk_cell BK278.out 1).trans rfl⟩ (fun hHeld => ?_)
       clear hK K
       refine norm_ (a' := ?_) ?_ ?_
       rotate_left
       ·
        show Act.put _ (some 32) _ = _
        simp only [Act.put, List.setIfInBounds_toArray, List.set_cons_zero, List.set_cons_succ, i64_w, i32_w]
        rfl
       refine pure_ (i := 5) (N := some 27) (v := ?_) (a' := ?_) #[true, true, true, true, true, true, false, false, true, false, false] rfl rfl (any_of HT_.out (by kernel_rfl)) (fun _ _ _ h => h) (Or.inl ⟨by rfl, ?_⟩) ?_ ?_
       rotate_left
       ·
        intro w'
        go_simp
        with_reducible rfl
       rotate_left
       ·
        simp only [Act.put, List.setIfInBounds_toArray, List.set_cons_zero, List.set_cons_succ, i64_w, i32_w]
        rfl
       refine pure_ (i := 6) (N := some 33) (v := ?_) (a' := ?_) #[true, true, true, true, true, true, true, false, true, false, false] rfl rfl (any_of HT_.out (by kernel_rfl)) (fun _ _ _ h => h) (Or.inl ⟨by rfl, ?_⟩) ?_ ?_
       rotate_left
       ·
        intro w'
        go_simp
        with_reducible rfl
       rotate_left
       ·
        simp only [Act.put, List.setIfInBounds_toArray, List.set_cons_zero, List.set_cons_succ, i64_w, i32_w]
        rfl
       refine pure_ (i := 7) (N := some 34) (v := ?_) (a' := ?_) #[true, true, true, true, true, true, true, true, true, false, false] rfl rfl (any_of HT_.out (by kernel_rfl)) (fun _ _ _ h => h) (Or.inl ⟨by rfl, ?_⟩) ?_ ?_
       rotate_left
       ·
        intro w'
        go_simp
        with_reducible rfl
       rotate_left
       ·
        simp only [Act.put, List.setIfInBounds_toArray, List.set_cons_zero, List.set_cons_succ, i64_w, i32_w]
        rfl
       exact norm_ (by simp only [putAll, Act.put, List.setIfInBounds_toArray, List.set_cons_zero, List.set_cons_succ]) (hCont (.slice Ao37 t281.length co37, .slice Ao38 t284.length co38, .slice Ao39 t287.length co39, .slice Ao40 t290.length co40, v294, v297, gb300) _ ⟨hHeld, (by refine RU ?_; exact Kd.R_mono HO283.out (fun _ hk => ⟨hk.1.1.1.1, ⟨hk.1.1.1.2, ⟨hk.1.1.2, ⟨hk.1.2, hk.2⟩⟩⟩⟩)), (by refine RU ?_; exact Kd.R_mono HO286.out (fun _ hk => ⟨hk.1.1.1.1, ⟨hk.1.1.1.2, ⟨hk.1.1.2, ⟨hk.1.2, hk.2⟩⟩⟩⟩)), (by refine RU ?_; exact Kd.R_mono HO289.out (fun _ hk => ⟨hk.1.1.1.2, ⟨hk.1.1.2, ⟨hk.1.1.1.1, ⟨hk.1.2, hk.2⟩⟩⟩⟩)), (by refine RU ?_; exact Kd.R_mono HO292.out (fun _ hk => ⟨hk.1.1.1.2, ⟨hk.1.1.2, ⟨hk.1.1.1.1, ⟨hk.1.2, hk.2⟩⟩⟩⟩)), (by refine RU ?_; exact Kd.R_mono HO295.out (fun _ hk => ⟨hk.1.1.1.2, ⟨hk.1.1.2, ⟨hk.1.2, ⟨hk.2, hk.1.1.1.1⟩⟩⟩⟩)), (by refine RU ?_; exact Kd.R_mono HO298.out (fun _ hk => ⟨hk.1.1.1.2, ⟨hk.1.1.2, ⟨hk.1.2, ⟨hk.2, hk.1.1.1.1⟩⟩⟩⟩)), (kU BK277.out), (kU BK278.out), (kU BK300.out), GW300.out, GE300.out, NB277_300.out, NB300_277.out, NB278_300.out, NB300_278.out, (bS3 HB.out GE277.out GE278.out GE300.out)⟩)
     ·
      skip
      refine box_step ?hg (N := 6) ?hd (cs := #[.slice none 0 0, .slice none 0 0]) (t := 28) ?hr ?_; (case hd => rfl); (case hg => rfl); (case hr => first | (go_simp; done) | (go_simp; rfl))
      intro gb300 hg w35 hbox hb
      replace HO283 := Aside0.mk (Kd.R_below (RU HO283.out) hb)
      replace HO286 := Aside0.mk (Kd.R_below (RU HO286.out) hb)
      have BK300 := Aside0.mk (hbox)
      have GW300 := Aside0.mk ((by rw [hg]; exact (below_size (bS2 HB.out GE277.out GE278.out)) : w.heap.size ≤ gb300))
      have GE300 := Aside0.mk ((by rw [hg]; exact (below_size (bS2 HB.out GE277.out GE278.out)) : w.heap.size ≤ gb300))
      replace HB := Aside0.mk (below_step (bS2 HB.out GE277.out GE278.out) hb)
      have NB277_300 := Aside0.mk (kN BK277.out hg)
      have NB300_277 := Aside0.mk (kM BK277.out hg)
      replace BK277 := Aside0.mk (kB BK277.out hb)
      have NB278_300 := Aside0.mk (kN BK278.out hg)
      have NB300_278 := Aside0.mk (kM BK278.out hg)
      replace BK278 := Aside0.mk (kB BK278.out hb)
      clear hb hbox hg
      refine hK.out _ _ ⟨(blk_cell BK277.out 0).trans rfl, (blk_cell BK277.out 1).trans rfl, (blk_cell BK278.out 0).trans rfl, (blk_cell BK278.out 1).trans rfl⟩ (fun hHeld => ?_)
      clear hK K
      refine norm_ (a' := ?_) ?_ ?_
      rotate_left
      ·
       show Act.put _ (some 6) _ = _
       simp only [Act.put, List.setIfInBounds_toArray, List.set_cons_zero, List.set_cons_succ, i64_w, i32_w]
       rfl
      refine one_ (i := 3) (N := some 31) #[true, true, true, true, false, false, false, false, true, false, false] rfl rfl (one_of HT_.out (by kernel_rfl)) (by decide) (fun K hK => ?_)
      refine goes_ Try.func7 (by kernel_rfl) rfl #[.agg #[.slice A1_0 l1_0.length c1_0, .slice A1_1 l1_1.length c1_1]] (by rfl) rfl rfl lU ?_
      with_reducible refine (laws_toArray.calls k _ _ l1_0 _ _ l1_1 t287 t290 _ ?side1 ?side2 ?side3 ?side4 A20.out).mono ?_
      (case side1 => exact cU (Kd.C_below HR1_0.out HB.out))
      (case side2 => exact HC1_0.out)
      (case side3 => exact cU (Kd.C_below HR1_1.out HB.out))
      (case side4 => exact HC1_1.out)
      rintro e w36 ⟨v288, v291, rfl, ho0, ho1, hb⟩
      refine ⟨_, rfl, ?_⟩
      have HO289 := Aside0.mk (Kd.R_lower (Kd.R_new' (Kd.R_new' ho0 (Kd.R_lt (RU HO283.out))) (Kd.R_lt (RU HO286.out))) (below_size (bS3 HB.out GE277.out GE278.out GE300.out)))
      have HO292 := Aside0.mk (Kd.R_lower (Kd.R_new' (Kd.R_new' ho1 (Kd.R_lt (RU HO283.out))) (Kd.R_lt (RU HO286.out))) (below_size (bS3 HB.out GE277.out GE278.out GE300.out)))
      replace HO283 := Aside0.mk (Kd.R_mono (Kd.R_told (Kd.R_told (Kd.R_old (RU HO283.out) hb) (Kd.R_base ho0)) (Kd.R_base ho1)) (fun _ h_ => h_.1))
      replace HO286 := Aside0.mk (Kd.R_mono (Kd.R_told (Kd.R_told (Kd.R_old (RU HO286.out) hb) (Kd.R_base ho0)) (Kd.R_base ho1)) (fun _ h_ => h_.1))
      replace BK277 := Aside0.mk (kB BK277.out hb)
      replace BK278 := Aside0.mk (kB BK278.out hb)
      replace BK300 := Aside0.mk (kB BK300.out hb)
      replace HB := Aside0.mk (below_step (bS3 HB.out GE277.out GE278.out GE300.out) hb)
      (try clear hb)
      (try clear hb2)
      (try clear hk)
      (try clear hi)
      (try clear ho0)
      (try clear ho1)
      obtain ⟨Ao37, co37, eo37⟩ := Kd.R_slice HO283.out
      (first | subst eo37 | (injection eo37 with f1_ f2_ f3_; have f4_ := f1_.symm; have f5_ := f3_.symm; clear f1_ f2_ f3_; subst f4_; subst f5_))
      obtain ⟨Ao38, co38, eo38⟩ := Kd.R_slice HO286.out
      (first | subst eo38 | (injection eo38 with f1_ f2_ f3_; have f4_ := f1_.symm; have f5_ := f3_.symm; clear f1_ f2_ f3_; subst f4_; subst f5_))
      obtain ⟨Ao39, co39, eo39⟩ := Kd.R_slice HO289.out
      (first | subst eo39 | (injection eo39 with f1_ f2_ f3_; have f4_ := f1_.symm; have f5_ := f3_.symm; clear f1_ f2_ f3_; subst f4_; subst f5_))
      obtain ⟨Ao40, co40, eo40⟩ := Kd.R_slice HO292.out
      (first | subst eo40 | (injection eo40 with f1_ f2_ f3_; have f4_ := f1_.symm; have f5_ := f3_.symm; clear f1_ f2_ f3_; subst f4_; subst f5_))
      refine hK.out _ _ ⟨(blk_cell BK277.out 0).trans rfl, (blk_cell BK277.out 1).trans rfl, (blk_cell BK278.out 0).trans rfl, (blk_cell BK278.out 1).trans rfl⟩ (fun hHeld => ?_)
      clear hK K
      refine norm_ (a' := ?_) ?_ ?_
      rotate_left
      ·
       show Act.put _ (some 31) _ = _
       simp only [Act.put, List.setIfInBounds_toArray, List.set_cons_zero, List.set_cons_succ, i64_w, i32_w]
       rfl
      refine one_ (i := 4) (N := some 32) #[true, true, true, true, true, false, false, false, true, false, false] rfl rfl (one_of HT_.out (by kernel_rfl)) (by decide) (fun K hK => ?_)
      refine goes_ Try.func14 (by kernel_rfl) rfl #[.agg #[.slice Ao37 t281.length co37, .slice Ao38 t284.length co38], .agg #[.slice Ao39 t287.length co39, .slice Ao40 t290.length co40]] (by rfl) rfl rfl lU ?_
      with_reducible refine (spec_Pick.calls k _ _ t281 _ _ t284 _ _ t287 _ _ t290 t293 t296 t299 _ ?side1 ?side2 ?side3 ?side4 ?side5 ?side6 ?side7 ?side8 A21.out).mono ?_
      (case side1 => exact cU (Kd.R_reads' HO283.out).2.2)
      (case side2 => exact (Kd.R_reads' HO283.out).2.1)
      (case side3 => exact cU (Kd.R_reads' HO286.out).2.2)
      (case side4 => exact (Kd.R_reads' HO286.out).2.1)
      (case side5 => exact cU (Kd.R_reads' HO289.out).2.2)
      (case side6 => exact (Kd.R_reads' HO289.out).2.1)
      (case side7 => exact cU (Kd.R_reads' HO292.out).2.2)
      (case side8 => exact (Kd.R_reads' HO292.out).2.1)
      rintro e w41 ⟨v294, v297, rfl, ho0, ho1, hb⟩
      refine ⟨_, rfl, ?_⟩
      have HO295 := Aside0.mk (Kd.R_lower (Kd.R_new' (Kd.R_new' (Kd.R_new' (Kd.R_new' ho0 (Kd.R_lt (RU HO283.out))) (Kd.R_lt (RU HO286.out))) (Kd.R_lt (RU HO289.out))) (Kd.R_lt (RU HO292.out))) (below_size (bS3 HB.out GE277.out GE278.out GE300.out)))
      have HO298 := Aside0.mk (Kd.R_lower (Kd.R_new' (Kd.R_new' (Kd.R_new' (Kd.R_new' ho1 (Kd.R_lt (RU HO283.out))) (Kd.R_lt (RU HO286.out))) (Kd.R_lt (RU HO289.out))) (Kd.R_lt (RU HO292.out))) (below_size (bS3 HB.out GE277.out GE278.out GE300.out)))
      replace HO283 := Aside0.mk (Kd.R_mono (Kd.R_told (Kd.R_told (Kd.R_old (RU HO283.out) hb) (Kd.R_base ho0)) (Kd.R_base ho1)) (fun _ h_ => h_.1))
      replace HO286 := Aside0.mk (Kd.R_mono (Kd.R_told (Kd.R_told (Kd.R_old (RU HO286.out) hb) (Kd.R_base ho0)) (Kd.R_base ho1)) (fun _ h_ => h_.1))
      replace HO289 := Aside0.mk (Kd.R_mono (Kd.R_told (Kd.R_told (Kd.R_old (RU HO289.out) hb) (Kd.R_base ho0)) (Kd.R_base ho1)) (fun _ h_ => h_.1))
      replace HO292 := Aside0.mk (Kd.R_mono (Kd.R_told (Kd.R_told (Kd.R_old (RU HO292.out) hb) (Kd.R_base ho0)) (Kd.R_base ho1)) (fun _ h_ => h_.1))
      replace BK277 := Aside0.mk (kB BK277.out hb)
      replace BK278 := Aside0.mk (kB BK278.out hb)
      replace BK300 := Aside0.mk (kB BK300.out hb)
      replace HB := Aside0.mk (below_step (bS3 HB.out GE277.out GE278.out GE300.out) hb)
      (try clear hb)
      (try clear hb2)
      (try clear hk)
      (try clear hi)
      (try clear ho0)
      (try clear ho1)
      refine hK.out _ _ ⟨(blk_cell BK277.out 0).trans rfl, (blk_cell BK277.out 1).trans rfl, (blk_cell BK278.out 0).trans rfl, (blk_cell BK278.out 1).trans rfl⟩ (fun hHeld => ?_)
      clear hK K
      refine norm_ (a' := ?_) ?_ ?_
      rotate_left
      ·
       show Act.put _ (some 32) _ = _
       simp only [Act.put, List.setIfInBounds_toArray, List.set_cons_zero, List.set_cons_succ, i64_w, i32_w]
       rfl
      refine pure_ (i := 5) (N := some 27) (v := ?_) (a' := ?_) #[true, true, true, true, true, true, false, false, true, false, false] rfl rfl (any_of HT_.out (by kernel_rfl)) (fun _ _ _ h => h) (Or.inl ⟨by rfl, ?_⟩) ?_ ?_
      rotate_left
      ·
       intro w'
       go_simp
       with_reducible rfl
      rotate_left
      ·
       simp only [Act.put, List.setIfInBounds_toArray, List.set_cons_zero, List.set_cons_succ, i64_w, i32_w]
       rfl
      refine pure_ (i := 6) (N := some 33) (v := ?_) (a' := ?_) #[true, true, true, true, true, true, true, false, true, false, false] rfl rfl (any_of HT_.out (by kernel_rfl)) (fun _ _ _ h => h) (Or.inl ⟨by rfl, ?_⟩) ?_ ?_
      rotate_left
      ·
       intro w'
       go_simp
       with_reducible rfl
      rotate_left
      ·
       simp only [Act.put, List.setIfInBounds_toArray, List.set_cons_zero, List.set_cons_succ, i64_w, i32_w]
       rfl
      refine pure_ (i := 7) (N := some 34) (v := ?_) (a' := ?_) #[true, true, true, true, true, true, true, true, true, false, false] rfl rfl (any_of HT_.out (by kernel_rfl)) (fun _ _ _ h => h) (Or.inl ⟨by rfl, ?_⟩) ?_ ?_
      rotate_left
      ·
       intro w'
       go_simp
       with_reducible rfl
      rotate_left
      ·
       simp only [Act.put, List.setIfInBounds_toArray, List.set_cons_zero, List.set_cons_succ, i64_w, i32_w]
       rfl
      exact norm_ (by simp only [putAll, Act.put, List.setIfInBounds_toArray, List.set_cons_zero, List.set_cons_succ]) (hCont (.slice Ao37 t281.length co37, .slice Ao38 t284.length co38, .slice Ao39 t287.length co39, .slice Ao40 t290.length co40, v294, v297, gb300) _ ⟨hHeld, (by refine RU ?_; exact Kd.R_mono HO283.out (fun _ hk => ⟨hk.1.1.1.1, ⟨hk.1.1.1.2, ⟨hk.1.1.2, ⟨hk.1.2, hk.2⟩⟩⟩⟩)), (by refine RU ?_; exact Kd.R_mono HO286.out (fun _ hk => ⟨hk.1.1.1.1, ⟨hk.1.1.1.2, ⟨hk.1.1.2, ⟨hk.1.2, hk.2⟩⟩⟩⟩)), (by refine RU ?_; exact Kd.R_mono HO289.out (fun _ hk => ⟨hk.1.1.1.2, ⟨hk.1.1.2, ⟨hk.1.1.1.1, ⟨hk.1.2, hk.2⟩⟩⟩⟩)), (by refine RU ?_; exact Kd.R_mono HO292.out (fun _ hk => ⟨hk.1.1.1.2, ⟨hk.1.1.2, ⟨hk.1.1.1.1, ⟨hk.1.2, hk.2⟩⟩⟩⟩)), (by refine RU ?_; exact Kd.R_mono HO295.out (fun _ hk => ⟨hk.1.1.1.2, ⟨hk.1.1.2, ⟨hk.1.2, ⟨hk.2, hk.1.1.1.1⟩⟩⟩⟩)), (by refine RU ?_; exact Kd.R_mono HO298.out (fun _ hk => ⟨hk.1.1.1.2, ⟨hk.1.1.2, ⟨hk.1.2, ⟨hk.2, hk.1.1.1.1⟩⟩⟩⟩)), (kU BK277.out), (kU BK278.out), (kU BK300.out), GW300.out, GE300.out, NB277_300.out, NB300_277.out, NB278_300.out, NB300_278.out, (bS3 HB.out GE277.out GE278.out GE300.out)⟩)
    ·
     skip
     refine box_step ?hg (N := 6) ?hd (cs := #[.slice none 0 0, .slice none 0 0]) (t := 28) ?hr ?_; (case hd => rfl); (case hg => rfl); (case hr => first | (go_simp; done) | (go_simp; rfl))
     intro gb300 hg w34 hbox hb
     have BK300 := Aside0.mk (hbox)
     have GW300 := Aside0.mk ((by rw [hg]; exact (below_size (bS2 HB.out GE277.out GE278.out)) : w.heap.size ≤ gb300))
     have GE300 := Aside0.mk ((by rw [hg]; exact (below_size (bS2 HB.out GE277.out GE278.out)) : w.heap.size ≤ gb300))
     replace HB := Aside0.mk (below_step (bS2 HB.out GE277.out GE278.out) hb)
     have NB277_300 := Aside0.mk (kN BK277.out hg)
     have NB300_277 := Aside0.mk (kM BK277.out hg)
     replace BK277 := Aside0.mk (kB BK277.out hb)
     have NB278_300 := Aside0.mk (kN BK278.out hg)
     have NB300_278 := Aside0.mk (kM BK278.out hg)
     replace BK278 := Aside0.mk (kB BK278.out hb)
     clear hb hbox hg
     refine hK.out _ _ ⟨(blk_cell BK277.out 0).trans rfl, (blk_cell BK277.out 1).trans rfl, (blk_cell BK278.out 0).trans rfl, (blk_cell BK278.out 1).trans rfl⟩ (fun hHeld => ?_)
     clear hK K
     refine norm_ (a' := ?_) ?_ ?_
     rotate_left
     ·
      show Act.put _ (some 6) _ = _
      simp only [Act.put, List.setIfInBounds_toArray, List.set_cons_zero, List.set_cons_succ, i64_w, i32_w]
      rfl
     refine one_ (i := 1) (N := some 29) #[true, true, true, false, false, false, false, false, true, false, false] rfl rfl (one_of HT_.out (by kernel_rfl)) (by decide) (fun K hK => ?_)
     refine goes_ Try.func7 (by kernel_rfl) rfl #[.agg #[.slice A0_0 l0_0.length c0_0, .slice A0_1 l0_1.length c0_1]] (by rfl) rfl rfl lU ?_
     with_reducible refine (laws_toArray.calls k _ _ l0_0 _ _ l0_1 t281 t284 _ ?side1 ?side2 ?side3 ?side4 A19.out).mono ?_
     (case side1 => exact cU (Kd.C_below HR0_0.out HB.out))
     (case side2 => exact HC0_0.out)
     (case side3 => exact cU (Kd.C_below HR0_1.out HB.out))
     (case side4 => exact HC0_1.out)
     rintro e w35 ⟨v282, v285, rfl, ho0, ho1, hb⟩
     refine ⟨_, rfl, ?_⟩
     have HO283 := Aside0.mk (Kd.R_lower ho0 (below_size (bS3 HB.out GE277.out GE278.out GE300.out)))
     have HO286 := Aside0.mk (Kd.R_lower ho1 (below_size (bS3 HB.out GE277.out GE278.out GE300.out)))
     replace BK277 := Aside0.mk (kB BK277.out hb)
     replace BK278 := Aside0.mk (kB BK278.out hb)
     replace BK300 := Aside0.mk (kB BK300.out hb)
     replace HB := Aside0.mk (below_step (bS3 HB.out GE277.out GE278.out GE300.out) hb)
     (try clear hb)
     (try clear hb2)
     (try clear hk)
     (try clear hi)
     (try clear ho0)
     (try clear ho1)
     refine hK.out _ _ ⟨(blk_cell BK277.out 0).trans rfl, (blk_cell BK277.out 1).trans rfl, (blk_cell BK278.out 0).trans rfl, (blk_cell BK278.out 1).trans rfl⟩ (fun hHeld => ?_)
     clear hK K
     refine norm_ (a' := ?_) ?_ ?_
     rotate_left
     ·
      show Act.put _ (some 29) _ = _
      simp only [Act.put, List.setIfInBounds_toArray, List.set_cons_zero, List.set_cons_succ, i64_w, i32_w]
      rfl
     refine one_ (i := 3) (N := some 31) #[true, true, true, true, false, false, false, false, true, false, false] rfl rfl (one_of HT_.out (by kernel_rfl)) (by decide) (fun K hK => ?_)
     refine goes_ Try.func7 (by kernel_rfl) rfl #[.agg #[.slice A1_0 l1_0.length c1_0, .slice A1_1 l1_1.length c1_1]] (by rfl) rfl rfl lU ?_
     with_reducible refine (laws_toArray.calls k _ _ l1_0 _ _ l1_1 t287 t290 _ ?side1 ?side2 ?side3 ?side4 A20.out).mono ?_
     (case side1 => exact cU (Kd.C_below HR1_0.out HB.out))
     (case side2 => exact HC1_0.out)
     (case side3 => exact cU (Kd.C_below HR1_1.out HB.out))
     (case side4 => exact HC1_1.out)
     rintro e w36 ⟨v288, v291, rfl, ho0, ho1, hb⟩
     refine ⟨_, rfl, ?_⟩
     have HO289 := Aside0.mk (Kd.R_lower (Kd.R_new' (Kd.R_new' ho0 (Kd.R_lt (RU HO283.out))) (Kd.R_lt (RU HO286.out))) (below_size (bS3 HB.out GE277.out GE278.out GE300.out)))
     have HO292 := Aside0.mk (Kd.R_lower (Kd.R_new' (Kd.R_new' ho1 (Kd.R_lt (RU HO283.out))) (Kd.R_lt (RU HO286.out))) (below_size (bS3 HB.out GE277.out GE278.out GE300.out)))
     replace HO283 := Aside0.mk (Kd.R_mono (Kd.R_told (Kd.R_told (Kd.R_old (RU HO283.out) hb) (Kd.R_base ho0)) (Kd.R_base ho1)) (fun _ h_ => h_.1))
     replace HO286 := Aside0.mk (Kd.R_mono (Kd.R_told (Kd.R_told (Kd.R_old (RU HO286.out) hb) (Kd.R_base ho0)) (Kd.R_base ho1)) (fun _ h_ => h_.1))
     replace BK277 := Aside0.mk (kB BK277.out hb)
     replace BK278 := Aside0.mk (kB BK278.out hb)
     replace BK300 := Aside0.mk (kB BK300.out hb)
     replace HB := Aside0.mk (below_step (bS3 HB.out GE277.out GE278.out GE300.out) hb)
     (try clear hb)
     (try clear hb2)
     (try clear hk)
     (try clear hi)
     (try clear ho0)
     (try clear ho1)
     obtain ⟨Ao37, co37, eo37⟩ := Kd.R_slice HO283.out
     (first | subst eo37 | (injection eo37 with f1_ f2_ f3_; have f4_ := f1_.symm; have f5_ := f3_.symm; clear f1_ f2_ f3_; subst f4_; subst f5_))
     obtain ⟨Ao38, co38, eo38⟩ := Kd.R_slice HO286.out
     (first | subst eo38 | (injection eo38 with f1_ f2_ f3_; have f4_ := f1_.symm; have f5_ := f3_.symm; clear f1_ f2_ f3_; subst f4_; subst f5_))
     obtain ⟨Ao39, co39, eo39⟩ := Kd.R_slice HO289.out
     (first | subst eo39 | (injection eo39 with f1_ f2_ f3_; have f4_ := f1_.symm; have f5_ := f3_.symm; clear f1_ f2_ f3_; subst f4_; subst f5_))
     obtain ⟨Ao40, co40, eo40⟩ := Kd.R_slice HO292.out
     (first | subst eo40 | (injection eo40 with f1_ f2_ f3_; have f4_ := f1_.symm; have f5_ := f3_.symm; clear f1_ f2_ f3_; subst f4_; subst f5_))
     refine hK.out _ _ ⟨(blk_cell BK277.out 0).trans rfl, (blk_cell BK277.out 1).trans rfl, (blk_cell BK278.out 0).trans rfl, (blk_cell BK278.out 1).trans rfl⟩ (fun hHeld => ?_)
     clear hK K
     refine norm_ (a' := ?_) ?_ ?_
     rotate_left
     ·
      show Act.put _ (some 31) _ = _
      simp only [Act.put, List.setIfInBounds_toArray, List.set_cons_zero, List.set_cons_succ, i64_w, i32_w]
      rfl
     refine one_ (i := 4) (N := some 32) #[true, true, true, true, true, false, false, false, true, false, false] rfl rfl (one_of HT_.out (by kernel_rfl)) (by decide) (fun K hK => ?_)
     refine goes_ Try.func14 (by kernel_rfl) rfl #[.agg #[.slice Ao37 t281.length co37, .slice Ao38 t284.length co38], .agg #[.slice Ao39 t287.length co39, .slice Ao40 t290.length co40]] (by rfl) rfl rfl lU ?_
     with_reducible refine (spec_Pick.calls k _ _ t281 _ _ t284 _ _ t287 _ _ t290 t293 t296 t299 _ ?side1 ?side2 ?side3 ?side4 ?side5 ?side6 ?side7 ?side8 A21.out).mono ?_
     (case side1 => exact cU (Kd.R_reads' HO283.out).2.2)
     (case side2 => exact (Kd.R_reads' HO283.out).2.1)
     (case side3 => exact cU (Kd.R_reads' HO286.out).2.2)
     (case side4 => exact (Kd.R_reads' HO286.out).2.1)
     (case side5 => exact cU (Kd.R_reads' HO289.out).2.2)
     (case side6 => exact (Kd.R_reads' HO289.out).2.1)
     (case side7 => exact cU (Kd.R_reads' HO292.out).2.2)
     (case side8 => exact (Kd.R_reads' HO292.out).2.1)
     rintro e w41 ⟨v294, v297, rfl, ho0, ho1, hb⟩
     refine ⟨_, rfl, ?_⟩
     have HO295 := Aside0.mk (Kd.R_lower (Kd.R_new' (Kd.R_new' (Kd.R_new' (Kd.R_new' ho0 (Kd.R_lt (RU HO283.out))) (Kd.R_lt (RU HO286.out))) (Kd.R_lt (RU HO289.out))) (Kd.R_lt (RU HO292.out))) (below_size (bS3 HB.out GE277.out GE278.out GE300.out)))
     have HO298 := Aside0.mk (Kd.R_lower (Kd.R_new' (Kd.R_new' (Kd.R_new' (Kd.R_new' ho1 (Kd.R_lt (RU HO283.out))) (Kd.R_lt (RU HO286.out))) (Kd.R_lt (RU HO289.out))) (Kd.R_lt (RU HO292.out))) (below_size (bS3 HB.out GE277.out GE278.out GE300.out)))
     replace HO283 := Aside0.mk (Kd.R_mono (Kd.R_told (Kd.R_told (Kd.R_old (RU HO283.out) hb) (Kd.R_base ho0)) (Kd.R_base ho1)) (fun _ h_ => h_.1))
     replace HO286 := Aside0.mk (Kd.R_mono (Kd.R_told (Kd.R_told (Kd.R_old (RU HO286.out) hb) (Kd.R_base ho0)) (Kd.R_base ho1)) (fun _ h_ => h_.1))
     replace HO289 := Aside0.mk (Kd.R_mono (Kd.R_told (Kd.R_told (Kd.R_old (RU HO289.out) hb) (Kd.R_base ho0)) (Kd.R_base ho1)) (fun _ h_ => h_.1))
     replace HO292 := Aside0.mk (Kd.R_mono (Kd.R_told (Kd.R_told (Kd.R_old (RU HO292.out) hb) (Kd.R_base ho0)) (Kd.R_base ho1)) (fun _ h_ => h_.1))
     replace BK277 := Aside0.mk (kB BK277.out hb)
     replace BK278 := Aside0.mk (kB BK278.out hb)
     replace BK300 := Aside0.mk (kB BK300.out hb)
     replace HB := Aside0.mk (below_step (bS3 HB.out GE277.out GE278.out GE300.out) hb)
     (try clear hb)
     (try clear hb2)
     (try clear hk)
     (try clear hi)
     (try clear ho0)
     (try clear ho1)
     refine hK.out _ _ ⟨(blk_cell BK277.out 0).trans rfl, (blk_cell BK277.out 1).trans rfl, (blk_cell BK278.out 0).trans rfl, (blk_cell BK278.out 1).trans rfl⟩ (fun hHeld => ?_)
     clear hK K
     refine norm_ (a' := ?_) ?_ ?_
     rotate_left
     ·
      show Act.put _ (some 32) _ = _
      simp only [Act.put, List.setIfInBounds_toArray, List.set_cons_zero, List.set_cons_succ, i64_w, i32_w]
      rfl
     refine pure_ (i := 5) (N := some 27) (v := ?_) (a' := ?_) #[true, true, true, true, true, true, false, false, true, false, false] rfl rfl (any_of HT_.out (by kernel_rfl)) (fun _ _ _ h => h) (Or.inl ⟨by rfl, ?_⟩) ?_ ?_
     rotate_left
     ·
      intro w'
      go_simp
      with_reducible rfl
     rotate_left
     ·
      simp only [Act.put, List.setIfInBounds_toArray, List.set_cons_zero, List.set_cons_succ, i64_w, i32_w]
      rfl
     refine pure_ (i := 6) (N := some 33) (v := ?_) (a' := ?_) #[true, true, true, true, true, true, true, false, true, false, false] rfl rfl (any_of HT_.out (by kernel_rfl)) (fun _ _ _ h => h) (Or.inl ⟨by rfl, ?_⟩) ?_ ?_
     rotate_left
     ·
      intro w'
      go_simp
      with_reducible rfl
     rotate_left
     ·
      simp only [Act.put, List.setIfInBounds_toArray, List.set_cons_zero, List.set_cons_succ, i64_w, i32_w]
      rfl
     refine pure_ (i := 7) (N := some 34) (v := ?_) (a' := ?_) #[true, true, true, true, true, true, true, true, true, false, false] rfl rfl (any_of HT_.out (by kernel_rfl)) (fun _ _ _ h => h) (Or.inl ⟨by rfl, ?_⟩) ?_ ?_
     rotate_left
     ·
      intro w'
      go_simp
      with_reducible rfl
     rotate_left
     ·
      simp only [Act.put, List.setIfInBounds_toArray, List.set_cons_zero, List.set_cons_succ, i64_w, i32_w]
      rfl
     exact norm_ (by simp only [putAll, Act.put, List.setIfInBounds_toArray, List.set_cons_zero, List.set_cons_succ]) (hCont (.slice Ao37 t281.length co37, .slice Ao38 t284.length co38, .slice Ao39 t287.length co39, .slice Ao40 t290.length co40, v294, v297, gb300) _ ⟨hHeld, (by refine RU ?_; exact Kd.R_mono HO283.out (fun _ hk => ⟨hk.1.1.1.1, ⟨hk.1.1.1.2, ⟨hk.1.1.2, ⟨hk.1.2, hk.2⟩⟩⟩⟩)), (by refine RU ?_; exact Kd.R_mono HO286.out (fun _ hk => ⟨hk.1.1.1.1, ⟨hk.1.1.1.2, ⟨hk.1.1.2, ⟨hk.1.2, hk.2⟩⟩⟩⟩)), (by refine RU ?_; exact Kd.R_mono HO289.out (fun _ hk => ⟨hk.1.1.1.2, ⟨hk.1.1.2, ⟨hk.1.1.1.1, ⟨hk.1.2, hk.2⟩⟩⟩⟩)), (by refine RU ?_; exact Kd.R_mono HO292.out (fun _ hk => ⟨hk.1.1.1.2, ⟨hk.1.1.2, ⟨hk.1.1.1.1, ⟨hk.1.2, hk.2⟩⟩⟩⟩)), (by refine RU ?_; exact Kd.R_mono HO295.out (fun _ hk => ⟨hk.1.1.1.2, ⟨hk.1.1.2, ⟨hk.1.2, ⟨hk.2, hk.1.1.1.1⟩⟩⟩⟩)), (by refine RU ?_; exact Kd.R_mono HO298.out (fun _ hk => ⟨hk.1.1.1.2, ⟨hk.1.1.2, ⟨hk.1.2, ⟨hk.2, hk.1.1.1.1⟩⟩⟩⟩)), (kU BK277.out), (kU BK278.out), (kU BK300.out), GW300.out, GE300.out, NB277_300.out, NB300_277.out, NB278_300.out, NB300_278.out, (bS3 HB.out GE277.out GE278.out GE300.out)⟩)
   rintro ⟨v282, v285, v288, v291, v294, v297, gb300⟩ w42 ⟨hS_, h0_, h1_, h2_, h3_, h4_, h5_, h6_, h7_, h8_, h9_, h10_, h11_, h12_, h13_, h14_, h15_⟩
   have n0_ : Aside0 (Kd.R (Kd.int .i64) 3 w42 w.heap.size (fun k_ => some k_ ≠ (v285 : Value).ownBlock ∧ some k_ ≠ (v288 : Value).ownBlock ∧ some k_ ≠ (v291 : Value).ownBlock ∧ some k_ ≠ (v294 : Value).ownBlock ∧ some k_ ≠ (v297 : Value).ownBlock) v282 t281) := ⟨h0_⟩
   have n1_ : Aside0 (Kd.R (Kd.int .i64) 3 w42 w.heap.size (fun k_ => some k_ ≠ (v282 : Value).ownBlock ∧ some k_ ≠ (v288 : Value).ownBlock ∧ some k_ ≠ (v291 : Value).ownBlock ∧ some k_ ≠ (v294 : Value).ownBlock ∧ some k_ ≠ (v297 : Value).ownBlock) v285 t284) := ⟨h1_⟩
   have n2_ : Aside0 (Kd.R (Kd.int .i64) 3 w42 w.heap.size (fun k_ => some k_ ≠ (v282 : Value).ownBlock ∧ some k_ ≠ (v285 : Value).ownBlock ∧ some k_ ≠ (v291 : Value).ownBlock ∧ some k_ ≠ (v294 : Value).ownBlock ∧ some k_ ≠ (v297 : Value).ownBlock) v288 t287) := ⟨h2_⟩
   have n3_ : Aside0 (Kd.R (Kd.int .i64) 3 w42 w.heap.size (fun k_ => some k_ ≠ (v282 : Value).ownBlock ∧ some k_ ≠ (v285 : Value).ownBlock ∧ some k_ ≠ (v288 : Value).ownBlock ∧ some k_ ≠ (v294 : Value).ownBlock ∧ some k_ ≠ (v297 : Value).ownBlock) v291 t290) := ⟨h3_⟩
   have n4_ : Aside0 (Kd.R (Kd.int .i64) 3 w42 w.heap.size (fun k_ => some k_ ≠ (v282 : Value).ownBlock ∧ some k_ ≠ (v285 : Value).ownBlock ∧ some k_ ≠ (v288 : Value).ownBlock ∧ some k_ ≠ (v291 : Value).ownBlock ∧ some k_ ≠ (v297 : Value).ownBlock) v294 t293) := ⟨h4_⟩
   have n5_ : Aside0 (Kd.R (Kd.int .i64) 3 w42 w.heap.size (fun k_ => some k_ ≠ (v282 : Value).ownBlock ∧ some k_ ≠ (v285 : Value).ownBlock ∧ some k_ ≠ (v288 : Value).ownBlock ∧ some k_ ≠ (v291 : Value).ownBlock ∧ some k_ ≠ (v294 : Value).ownBlock) v297 t296) := ⟨h5_⟩
   have n6_ : Aside0 (w42.heap[gb277]? = some (.cells #[.slice A0_0 l0_0.length c0_0, .slice A0_1 l0_1.length c0_1] 24 (0, 0))) := ⟨h6_⟩
   have n7_ : Aside0 (w42.heap[gb278]? = some (.cells #[.slice A1_0 l1_0.length c1_0, .slice A1_1 l1_1.length c1_1] 24 (0, 0))) := ⟨h7_⟩
   have n8_ : Aside0 (w42.heap[gb300]? = some (.cells #[.slice none 0 0, .slice none 0 0] 28 (0, 0))) := ⟨h8_⟩
   have n9_ : Aside0 (w.heap.size ≤ gb300) := ⟨h9_⟩
   have n10_ : Aside0 (w.heap.size ≤ gb300) := ⟨h10_⟩
   have n11_ : Aside0 (gb277 ≠ gb300) := ⟨h11_⟩
   have n12_ : Aside0 (gb300 ≠ gb277) := ⟨h12_⟩
   have n13_ : Aside0 (gb278 ≠ gb300) := ⟨h13_⟩
   have n14_ : Aside0 (gb300 ≠ gb278) := ⟨h14_⟩
   have n15_ : Aside0 (Below w.heap.size w w42) := ⟨h15_⟩
   clear BK277 BK278 HB
   clear h0_ h1_ h2_ h3_ h4_ h5_ h6_ h7_ h8_ h9_ h10_ h11_ h12_ h13_ h14_ h15_
   have HO283 := n0_
   have HO286 := n1_
   have HO289 := n2_
   have HO292 := n3_
   have HO295 := n4_
   have HO298 := n5_
   have BK277 := n6_
   have BK278 := n7_
   have BK300 := n8_
   have GW300 := n9_
   have GE300 := n10_
   have NB277_300 := n11_
   have NB300_277 := n12_
   have NB278_300 := n13_
   have NB300_278 := n14_
   have HB := n15_
   clear n0_ n1_ n2_ n3_ n4_ n5_ n6_ n7_ n8_ n9_ n10_ n11_ n12_ n13_ n14_ n15_
   have hHeld : w42.cell? ⟨gb277, 0, none⟩ = some (.slice A0_0 l0_0.length c0_0) ∧ w42.cell? ⟨gb277, 1, none⟩ = some (.slice A0_1 l0_1.length c0_1) ∧ w42.cell? ⟨gb278, 0, none⟩ = some (.slice A1_0 l1_0.length c1_0) ∧ w42.cell? ⟨gb278, 1, none⟩ = some (.slice A1_1 l1_1.length c1_1) := hS_
   obtain ⟨Ao43, co43, eo43⟩ := Kd.R_slice HO295.out
   (first | subst eo43 | (injection eo43 with f1_ f2_ f3_; have f4_ := f1_.symm; have f5_ := f3_.symm; clear f1_ f2_ f3_; subst f4_; subst f5_))
   obtain ⟨Ao45, co45, eo45⟩ := Kd.R_slice HO298.out
   (first | subst eo45 | (injection eo45 with f1_ f2_ f3_; have f4_ := f1_.symm; have f5_ := f3_.symm; clear f1_ f2_ f3_; subst f4_; subst f5_))
   refine norm_ (a' := ?_) ?_ ?_
   rotate_left
   ·
    simp only [putAll, Act.put, List.setIfInBounds_toArray, List.set_cons_zero, List.set_cons_succ]
    rfl
   refine one_ (i := 9) (N := none) #[true, true, true, true, true, true, true, true, true, true, false] rfl rfl (one_of HT_.out (by kernel_rfl)) (by decide) (fun K hK => ?_)
   have hs44 : w42.cell? ⟨gb300, 0, none⟩ = some (.slice none 0 0) := (blk_cell BK300.out 0).trans rfl
   have hfs44 := blk_frozen BK300.out 0
   have hns44_0 := NB277_300.out
   have hns44_1 := NB278_300.out
   have hms44_0 := NB300_277.out
   have hms44_1 := NB300_278.out
   have hs46 : w42.cell? ⟨gb300, 1, none⟩ = some (.slice none 0 0) := (blk_cell BK300.out 1).trans rfl
   have hfs46 := blk_frozen BK300.out 1
   have hns46_0 := NB277_300.out
   have hns46_1 := NB278_300.out
   have hms46_0 := NB300_277.out
   have hms46_1 := NB300_278.out
   refine skip_ (w1 := ?_) (by rfl) rfl ?_ ?_
   rotate_left
   ·
    go_simp
    rfl
   refine hK.out _ _ ⟨((cell_far (p := ⟨gb300, _, none⟩) NB277_300.out _).trans (((cell_far (p := ⟨gb300, _, none⟩) NB277_300.out _).trans (hHeld.1)))), ((cell_far (p := ⟨gb300, _, none⟩) NB277_300.out _).trans (((cell_far (p := ⟨gb300, _, none⟩) NB277_300.out _).trans (hHeld.2.1)))), ((cell_far (p := ⟨gb300, _, none⟩) NB278_300.out _).trans (((cell_far (p := ⟨gb300, _, none⟩) NB278_300.out _).trans (hHeld.2.2.1)))), ((cell_far (p := ⟨gb300, _, none⟩) NB278_300.out _).trans (((cell_far (p := ⟨gb300, _, none⟩) NB278_300.out _).trans (hHeld.2.2.2))))⟩ (fun hHeld => ?_)
   clear hK K
   refine pure_ (i := 10) (N := some 7) (v := ?_) (a' := ?_) #[true, true, true, true, true, true, true, true, true, true, true] rfl rfl (any_of HT_.out (by kernel_rfl)) (fun _ _ _ h => h) (Or.inl ⟨by rfl, ?_⟩) ?_ ?_
   rotate_left
   ·
    intro w'
    go_simp
    with_reducible rfl
   rotate_left
   ·
    simp only [Act.put, List.setIfInBounds_toArray, List.set_cons_zero, List.set_cons_succ, i64_w, i32_w]
    rfl
   refine done_ (done_of HT_.out (by kernel_rfl)) ?_
   have hnb47 := NB277_300.out
   have hnc47 := NB300_277.out
   have hcz48_0 : w42.cell? ⟨gb277, 0, none⟩ = some (.slice A0_0 l0_0.length c0_0) := (blk_cell BK277.out 0).trans rfl
   have hcz48_1 : w42.cell? ⟨gb277, 1, none⟩ = some (.slice A0_1 l0_1.length c0_1) := (blk_cell BK277.out 1).trans rfl
   have hfz48_0 := blk_frozen BK277.out 0
   have hfz48_1 := blk_frozen BK277.out 1
   go_upto_region 12 with (first | ((with_reducible refine gate_callee (f := 7) rfl ?_); refine goesL_ (some 36) rfl rfl Try.func7 (by kernel_rfl) rfl #[.agg #[.slice A0_0 l0_0.length c0_0, .slice A0_1 l0_1.length c0_1]] rfl lU ?_; (with_reducible refine (laws_toArray.calls k _ _ l0_0 _ _ l0_1 t301 t304 _ ?side1 ?side2 ?side3 ?side4 A22.out).mono ?_); (case side1 => exact Kd.C_below HR0_0.out (bS3 HB.out GE277.out GE278.out GE300.out)); (case side2 => exact HC0_0.out); (case side3 => exact Kd.C_below HR0_1.out (bS3 HB.out GE277.out GE278.out GE300.out)); (case side4 => exact HC0_1.out); rintro e w49 ⟨v302, v305, rfl, ho0, ho1, hb⟩; refine ⟨_, rfl, ?_⟩; have HO303 := Aside0.mk (Kd.R_lower (Kd.R_new' (Kd.R_new' (Kd.R_new' (Kd.R_new' (Kd.R_new' (Kd.R_new' ho0 (Kd.R_lt (by refine RU ?_; exact (far2 HO283.out BK300.out)))) (Kd.R_lt (by refine RU ?_; exact (far2 HO286.out BK300.out)))) (Kd.R_lt (by refine RU ?_; exact (far2 HO289.out BK300.out)))) (Kd.R_lt (by refine RU ?_; exact (far2 HO292.out BK300.out)))) (Kd.R_lt (by refine RU ?_; exact (far2 HO295.out BK300.out)))) (Kd.R_lt (by refine RU ?_; exact (far2 HO298.out BK300.out)))) (below_size (bS3 HB.out GE277.out GE278.out GE300.out))); have HO306 := Aside0.mk (Kd.R_lower (Kd.R_new' (Kd.R_new' (Kd.R_new' (Kd.R_new' (Kd.R_new' (Kd.R_new' ho1 (Kd.R_lt (by refine RU ?_; exact (far2 HO283.out BK300.out)))) (Kd.R_lt (by refine RU ?_; exact (far2 HO286.out BK300.out)))) (Kd.R_lt (by refine RU ?_; exact (far2 HO289.out BK300.out)))) (Kd.R_lt (by refine RU ?_; exact (far2 HO292.out BK300.out)))) (Kd.R_lt (by refine RU ?_; exact (far2 HO295.out BK300.out)))) (Kd.R_lt (by refine RU ?_; exact (far2 HO298.out BK300.out)))) (below_size (bS3 HB.out GE277.out GE278.out GE300.out))); replace HO283 := Aside0.mk (Kd.R_mono (Kd.R_told (Kd.R_told (Kd.R_old (by refine RU ?_; exact (far2 HO283.out BK300.out)) hb) (Kd.R_base ho0)) (Kd.R_base ho1)) (fun _ h_ => h_.1)); replace HO286 := Aside0.mk (Kd.R_mono (Kd.R_told (Kd.R_told (Kd.R_old (by refine RU ?_; exact (far2 HO286.out BK300.out)) hb) (Kd.R_base ho0)) (Kd.R_base ho1)) (fun _ h_ => h_.1)); replace HO289 := Aside0.mk (Kd.R_mono (Kd.R_told (Kd.R_told (Kd.R_old (by refine RU ?_; exact (far2 HO289.out BK300.out)) hb) (Kd.R_base ho0)) (Kd.R_base ho1)) (fun _ h_ => h_.1)); replace HO292 := Aside0.mk (Kd.R_mono (Kd.R_told (Kd.R_told (Kd.R_old (by refine RU ?_; exact (far2 HO292.out BK300.out)) hb) (Kd.R_base ho0)) (Kd.R_base ho1)) (fun _ h_ => h_.1)); replace HO295 := Aside0.mk (Kd.R_mono (Kd.R_told (Kd.R_told (Kd.R_old (by refine RU ?_; exact (far2 HO295.out BK300.out)) hb) (Kd.R_base ho0)) (Kd.R_base ho1)) (fun _ h_ => h_.1)); replace HO298 := Aside0.mk (Kd.R_mono (Kd.R_told (Kd.R_told (Kd.R_old (by refine RU ?_; exact (far2 HO298.out BK300.out)) hb) (Kd.R_base ho0)) (Kd.R_base ho1)) (fun _ h_ => h_.1)); replace BK277 := Aside0.mk (blk_below (g := gb277) (o := .cells #[.slice A0_0 l0_0.length c0_0, .slice A0_1 l0_1.length c0_1] 24 (0, 0)) (by refine kU ?_; refine blk_far ?_ NB277_300.out _; refine kU ?_; refine blk_far ?_ NB277_300.out _; refine kU ?_; exact BK277.out) hb); replace BK278 := Aside0.mk (blk_below (g := gb278) (o := .cells #[.slice A1_0 l1_0.length c1_0, .slice A1_1 l1_1.length c1_1] 24 (0, 0)) (by refine kU ?_; refine blk_far ?_ NB278_300.out _; refine kU ?_; refine blk_far ?_ NB278_300.out _; refine kU ?_; exact BK278.out) hb); replace BK300 := Aside0.mk (blk_below (g := gb300) (o := .cells #[.slice Ao43 t293.length co43, .slice Ao45 t296.length co45] 28 (0, 0)) (by refine kU ?_; refine blk_put (cs := #[.slice Ao43 t293.length co43, .slice none 0 0]) ?_ 1 _ rfl; refine kU ?_; refine blk_put (cs := #[.slice none 0 0, .slice none 0 0]) ?_ 0 _ rfl; refine kU ?_; exact BK300.out) hb); replace HB := Aside0.mk (below_step (bS3 HB.out GE277.out GE278.out GE300.out) hb); (try clear hb); (try clear hb2); (try clear hk); (try clear hi); (try clear ho0); (try clear ho1)) | ((with_reducible refine gate_dst (N := 8) rfl ?_); refine box_event ?hg (N := 8) ?hd (cs := #[.slice none 0 0, .slice none 0 0]) (t := 28) ?hr ?_; (case hd => rfl); (case hg => rfl); (case hr => first | (go_simp; done) | (go_simp; rfl)); intro gb307 hg w50 hbox hb; replace HO283 := Aside0.mk (Kd.R_below (RU HO283.out) hb); replace HO286 := Aside0.mk (Kd.R_below (RU HO286.out) hb); replace HO289 := Aside0.mk (Kd.R_below (RU HO289.out) hb); replace HO292 := Aside0.mk (Kd.R_below (RU HO292.out) hb); replace HO295 := Aside0.mk (Kd.R_below (RU HO295.out) hb); replace HO298 := Aside0.mk (Kd.R_below (RU HO298.out) hb); replace HO303 := Aside0.mk (Kd.R_below (RU HO303.out) hb); replace HO306 := Aside0.mk (Kd.R_below (RU HO306.out) hb); have BK307 := Aside0.mk (hbox); have GW307 := Aside0.mk ((by rw [hg]; exact (below_size (bS3 HB.out GE277.out GE278.out GE300.out)) : w.heap.size ≤ gb307)); have GE307 := Aside0.mk ((by rw [hg]; exact (below_size (bS3 HB.out GE277.out GE278.out GE300.out)) : w.heap.size ≤ gb307)); replace HB := Aside0.mk (below_step (bS3 HB.out GE277.out GE278.out GE300.out) hb); have NB277_307 := Aside0.mk (kN BK277.out hg); have NB307_277 := Aside0.mk (kM BK277.out hg); replace BK277 := Aside0.mk (kB BK277.out hb); have NB278_307 := Aside0.mk (kN BK278.out hg); have NB307_278 := Aside0.mk (kM BK278.out hg); replace BK278 := Aside0.mk (kB BK278.out hb); have NB300_307 := Aside0.mk (kN BK300.out hg); have NB307_300 := Aside0.mk (kM BK300.out hg); replace BK300 := Aside0.mk (kB BK300.out hb); clear hb hbox hg; obtain ⟨Ao51, co51, eo51⟩ := Kd.R_slice HO303.out; subst eo51; have hnb52 := NB307_277.out; have hnc52 := NB277_307.out; have hnb53 := NB307_278.out; have hnc53 := NB278_307.out; have hnb54 := NB307_300.out; have hnc54 := NB300_307.out; have hcz55_0 : w50.cell? ⟨gb307, 0, none⟩ = some (.slice none 0 0) := (blk_cell BK307.out 0).trans rfl; have hcz55_1 : w50.cell? ⟨gb307, 1, none⟩ = some (.slice none 0 0) := (blk_cell BK307.out 1).trans rfl; have hfz55_0 := blk_frozen BK307.out 0; have hfz55_1 := blk_frozen BK307.out 1; obtain ⟨Ao56, co56, eo56⟩ := Kd.R_slice HO306.out; subst eo56; have hnb57 := NB278_300.out; have hnc57 := NB300_278.out; have hcz58_0 : w50.cell? ⟨gb278, 0, none⟩ = some (.slice A1_0 l1_0.length c1_0) := (blk_cell BK278.out 0).trans rfl; have hcz58_1 : w50.cell? ⟨gb278, 1, none⟩ = some (.slice A1_1 l1_1.length c1_1) := (blk_cell BK278.out 1).trans rfl; have hfz58_0 := blk_frozen BK278.out 0; have hfz58_1 := blk_frozen BK278.out 1) | ((with_reducible refine gate_callee (f := 7) rfl ?_); refine goesL_ (some 38) rfl rfl Try.func7 (by kernel_rfl) rfl #[.agg #[.slice A1_0 l1_0.length c1_0, .slice A1_1 l1_1.length c1_1]] rfl lU ?_; (with_reducible refine (laws_toArray.calls k _ _ l1_0 _ _ l1_1 t308 t311 _ ?side1 ?side2 ?side3 ?side4 A23.out).mono ?_); (case side1 => exact Kd.C_below HR1_0.out (bS4 HB.out GE277.out GE278.out GE300.out GE307.out)); (case side2 => exact HC1_0.out); (case side3 => exact Kd.C_below HR1_1.out (bS4 HB.out GE277.out GE278.out GE300.out GE307.out)); (case side4 => exact HC1_1.out); rintro e w59 ⟨v309, v312, rfl, ho0, ho1, hb⟩; refine ⟨_, rfl, ?_⟩; have HO310 := Aside0.mk (Kd.R_lower (Kd.R_new' (Kd.R_new' (Kd.R_new' (Kd.R_new' (Kd.R_new' (Kd.R_new' (Kd.R_new' (Kd.R_new' ho0 (Kd.R_lt (by refine RU ?_; exact (far2 HO283.out BK307.out)))) (Kd.R_lt (by refine RU ?_; exact (far2 HO286.out BK307.out)))) (Kd.R_lt (by refine RU ?_; exact (far2 HO289.out BK307.out)))) (Kd.R_lt (by refine RU ?_; exact (far2 HO292.out BK307.out)))) (Kd.R_lt (by refine RU ?_; exact (far2 HO295.out BK307.out)))) (Kd.R_lt (by refine RU ?_; exact (far2 HO298.out BK307.out)))) (Kd.R_lt (by refine RU ?_; exact (far2 HO303.out BK307.out)))) (Kd.R_lt (by refine RU ?_; exact (far2 HO306.out BK307.out)))) (below_size (bS4 HB.out GE277.out GE278.out GE300.out GE307.out))); have HO313 := Aside0.mk (Kd.R_lower (Kd.R_new' (Kd.R_new' (Kd.R_new' (Kd.R_new' (Kd.R_new' (Kd.R_new' (Kd.R_new' (Kd.R_new' ho1 (Kd.R_lt (by refine RU ?_; exact (far2 HO283.out BK307.out)))) (Kd.R_lt (by refine RU ?_; exact (far2 HO286.out BK307.out)))) (Kd.R_lt (by refine RU ?_; exact (far2 HO289.out BK307.out)))) (Kd.R_lt (by refine RU ?_; exact (far2 HO292.out BK307.out)))) (Kd.R_lt (by refine RU ?_; exact (far2 HO295.out BK307.out)))) (Kd.R_lt (by refine RU ?_; exact (far2 HO298.out BK307.out)))) (Kd.R_lt (by refine RU ?_; exact (far2 HO303.out BK307.out)))) (Kd.R_lt (by refine RU ?_; exact (far2 HO306.out BK307.out)))) (below_size (bS4 HB.out GE277.out GE278.out GE300.out GE307.out))); replace HO283 := Aside0.mk (Kd.R_mono (Kd.R_told (Kd.R_told (Kd.R_old (by refine RU ?_; exact (far2 HO283.out BK307.out)) hb) (Kd.R_base ho0)) (Kd.R_base ho1)) (fun _ h_ => h_.1)); replace HO286 := Aside0.mk (Kd.R_mono (Kd.R_told (Kd.R_told (Kd.R_old (by refine RU ?_; exact (far2 HO286.out BK307.out)) hb) (Kd.R_base ho0)) (Kd.R_base ho1)) (fun _ h_ => h_.1)); replace HO289 := Aside0.mk (Kd.R_mono (Kd.R_told (Kd.R_told (Kd.R_old (by refine RU ?_; exact (far2 HO289.out BK307.out)) hb) (Kd.R_base ho0)) (Kd.R_base ho1)) (fun _ h_ => h_.1)); replace HO292 := Aside0.mk (Kd.R_mono (Kd.R_told (Kd.R_told (Kd.R_old (by refine RU ?_; exact (far2 HO292.out BK307.out)) hb) (Kd.R_base ho0)) (Kd.R_base ho1)) (fun _ h_ => h_.1)); replace HO295 := Aside0.mk (Kd.R_mono (Kd.R_told (Kd.R_told (Kd.R_old (by refine RU ?_; exact (far2 HO295.out BK307.out)) hb) (Kd.R_base ho0)) (Kd.R_base ho1)) (fun _ h_ => h_.1)); replace HO298 := Aside0.mk (Kd.R_mono (Kd.R_told (Kd.R_told (Kd.R_old (by refine RU ?_; exact (far2 HO298.out BK307.out)) hb) (Kd.R_base ho0)) (Kd.R_base ho1)) (fun _ h_ => h_.1)); replace HO303 := Aside0.mk (Kd.R_mono (Kd.R_told (Kd.R_told (Kd.R_old (by refine RU ?_; exact (far2 HO303.out BK307.out)) hb) (Kd.R_base ho0)) (Kd.R_base ho1)) (fun _ h_ => h_.1)); replace HO306 := Aside0.mk (Kd.R_mono (Kd.R_told (Kd.R_told (Kd.R_old (by refine RU ?_; exact (far2 HO306.out BK307.out)) hb) (Kd.R_base ho0)) (Kd.R_base ho1)) (fun _ h_ => h_.1)); replace BK277 := Aside0.mk (blk_below (g := gb277) (o := .cells #[.slice A0_0 l0_0.length c0_0, .slice A0_1 l0_1.length c0_1] 24 (0, 0)) (by refine kU ?_; refine blk_far ?_ NB277_307.out _; refine kU ?_; refine blk_far ?_ NB277_307.out _; refine kU ?_; exact BK277.out) hb); replace BK278 := Aside0.mk (blk_below (g := gb278) (o := .cells #[.slice A1_0 l1_0.length c1_0, .slice A1_1 l1_1.length c1_1] 24 (0, 0)) (by refine kU ?_; refine blk_far ?_ NB278_307.out _; refine kU ?_; refine blk_far ?_ NB278_307.out _; refine kU ?_; exact BK278.out) hb); replace BK300 := Aside0.mk (blk_below (g := gb300) (o := .cells #[.slice Ao43 t293.length co43, .slice Ao45 t296.length co45] 28 (0, 0)) (by refine kU ?_; refine blk_far ?_ NB300_307.out _; refine kU ?_; refine blk_far ?_ NB300_307.out _; refine kU ?_; exact BK300.out) hb); replace BK307 := Aside0.mk (blk_below (g := gb307) (o := .cells #[.slice Ao51 t301.length co51, .slice Ao56 t304.length co56] 28 (0, 0)) (by refine kU ?_; refine blk_put (cs := #[.slice Ao51 t301.length co51, .slice none 0 0]) ?_ 1 _ rfl; refine kU ?_; refine blk_put (cs := #[.slice none 0 0, .slice none 0 0]) ?_ 0 _ rfl; refine kU ?_; exact BK307.out) hb); replace HB := Aside0.mk (below_step (bS4 HB.out GE277.out GE278.out GE300.out GE307.out) hb); (try clear hb); (try clear hb2); (try clear hk); (try clear hi); (try clear ho0); (try clear ho1)) | ((with_reducible refine gate_dst (N := 9) rfl ?_); refine box_event ?hg (N := 9) ?hd (cs := #[.slice none 0 0, .slice none 0 0]) (t := 28) ?hr ?_; (case hd => rfl); (case hg => rfl); (case hr => first | (go_simp; done) | (go_simp; rfl)); intro gb314 hg w60 hbox hb; replace HO283 := Aside0.mk (Kd.R_below (RU HO283.out) hb); replace HO286 := Aside0.mk (Kd.R_below (RU HO286.out) hb); replace HO289 := Aside0.mk (Kd.R_below (RU HO289.out) hb); replace HO292 := Aside0.mk (Kd.R_below (RU HO292.out) hb); replace HO295 := Aside0.mk (Kd.R_below (RU HO295.out) hb); replace HO298 := Aside0.mk (Kd.R_below (RU HO298.out) hb); replace HO303 := Aside0.mk (Kd.R_below (RU HO303.out) hb); replace HO306 := Aside0.mk (Kd.R_below (RU HO306.out) hb); replace HO310 := Aside0.mk (Kd.R_below (RU HO310.out) hb); replace HO313 := Aside0.mk (Kd.R_below (RU HO313.out) hb); have BK314 := Aside0.mk (hbox); have GW314 := Aside0.mk ((by rw [hg]; exact (below_size (bS4 HB.out GE277.out GE278.out GE300.out GE307.out)) : w.heap.size ≤ gb314)); have GE314 := Aside0.mk ((by rw [hg]; exact (below_size (bS4 HB.out GE277.out GE278.out GE300.out GE307.out)) : w.heap.size ≤ gb314)); replace HB := Aside0.mk (below_step (bS4 HB.out GE277.out GE278.out GE300.out GE307.out) hb); have NB277_314 := Aside0.mk (kN BK277.out hg); have NB314_277 := Aside0.mk (kM BK277.out hg); replace BK277 := Aside0.mk (kB BK277.out hb); have NB278_314 := Aside0.mk (kN BK278.out hg); have NB314_278 := Aside0.mk (kM BK278.out hg); replace BK278 := Aside0.mk (kB BK278.out hb); have NB300_314 := Aside0.mk (kN BK300.out hg); have NB314_300 := Aside0.mk (kM BK300.out hg); replace BK300 := Aside0.mk (kB BK300.out hb); have NB307_314 := Aside0.mk (kN BK307.out hg); have NB314_307 := Aside0.mk (kM BK307.out hg); replace BK307 := Aside0.mk (kB BK307.out hb); clear hb hbox hg; obtain ⟨Ao61, co61, eo61⟩ := Kd.R_slice HO310.out; subst eo61; have hnb62 := NB314_277.out; have hnc62 := NB277_314.out; have hnb63 := NB314_278.out; have hnc63 := NB278_314.out; have hnb64 := NB314_300.out; have hnc64 := NB300_314.out; have hnb65 := NB314_307.out; have hnc65 := NB307_314.out; have hcz66_0 : w60.cell? ⟨gb314, 0, none⟩ = some (.slice none 0 0) := (blk_cell BK314.out 0).trans rfl; have hcz66_1 : w60.cell? ⟨gb314, 1, none⟩ = some (.slice none 0 0) := (blk_cell BK314.out 1).trans rfl; have hfz66_0 := blk_frozen BK314.out 0; have hfz66_1 := blk_frozen BK314.out 1; obtain ⟨Ao67, co67, eo67⟩ := Kd.R_slice HO313.out; subst eo67) | ((with_reducible refine gate_store (t := 28) (p := 9) rfl ?_); refine store_event (t := 28) (p := 9) (v := ?vo_w68) (w1 := ((w60.setCell ⟨gb314, 0, none⟩ (.slice Ao61 t308.length co61)).setCell ⟨gb314, 1, none⟩ (.slice Ao67 t311.length co67))) ?hg ?ho ?hn ?hr ?_; (case ho => rfl); (case hg => rfl); (case hn => rfl); (case hr => first | (go_simp; done) | (go_simp; rfl)); intro w68 hw; have n0_ : Aside0 (Kd.R (Kd.int .i64) 3 w68 w.heap.size (fun k_ => some k_ ≠ (v285 : Value).ownBlock ∧ some k_ ≠ (v288 : Value).ownBlock ∧ some k_ ≠ (v291 : Value).ownBlock ∧ some k_ ≠ (.slice Ao43 t293.length co43 : Value).ownBlock ∧ some k_ ≠ (.slice Ao45 t296.length co45 : Value).ownBlock ∧ some k_ ≠ (.slice Ao51 t301.length co51 : Value).ownBlock ∧ some k_ ≠ (.slice Ao56 t304.length co56 : Value).ownBlock ∧ some k_ ≠ (.slice Ao61 t308.length co61 : Value).ownBlock ∧ some k_ ≠ (.slice Ao67 t311.length co67 : Value).ownBlock) v282 t281) := ⟨(by rw [hw]; exact (by refine RU ?_; exact Kd.R_mono (Kd.R_far (p := ⟨gb314, 1, none⟩) (Kd.R_far (p := ⟨gb314, 0, none⟩) (Kd.R_types HO283.out BK314.out (by decide)) (fun _ hk => hk.2) (.slice Ao61 t308.length co61)) (fun _ hk => hk.2) (.slice Ao67 t311.length co67)) (fun _ hk => ⟨hk.1.1.1.1.1.1, ⟨hk.1.1.1.1.1.2.1, ⟨hk.1.1.1.1.1.2.2.1, ⟨hk.1.1.1.1.1.2.2.2.1, ⟨hk.1.1.1.1.1.2.2.2.2, ⟨hk.1.1.1.1.2, ⟨hk.1.1.1.2, ⟨hk.1.1.2, hk.1.2⟩⟩⟩⟩⟩⟩⟩⟩)))⟩; have n1_ : Aside0 (Kd.R (Kd.int .i64) 3 w68 w.heap.size (fun k_ => some k_ ≠ (v282 : Value).ownBlock ∧ some k_ ≠ (v288 : Value).ownBlock ∧ some k_ ≠ (v291 : Value).ownBlock ∧ some k_ ≠ (.slice Ao43 t293.length co43 : Value).ownBlock ∧ some k_ ≠ (.slice Ao45 t296.length co45 : Value).ownBlock ∧ some k_ ≠ (.slice Ao51 t301.length co51 : Value).ownBlock ∧ some k_ ≠ (.slice Ao56 t304.length co56 : Value).ownBlock ∧ some k_ ≠ (.slice Ao61 t308.length co61 : Value).ownBlock ∧ some k_ ≠ (.slice Ao67 t311.length co67 : Value).ownBlock) v285 t284) := ⟨(by rw [hw]; exact (by refine RU ?_; exact Kd.R_mono (Kd.R_far (p := ⟨gb314, 1, none⟩) (Kd.R_far (p := ⟨gb314, 0, none⟩) (Kd.R_types HO286.out BK314.out (by decide)) (fun _ hk => hk.2) (.slice Ao61 t308.length co61)) (fun _ hk => hk.2) (.slice Ao67 t311.length co67)) (fun _ hk => ⟨hk.1.1.1.1.1.1, ⟨hk.1.1.1.1.1.2.1, ⟨hk.1.1.1.1.1.2.2.1, ⟨hk.1.1.1.1.1.2.2.2.1, ⟨hk.1.1.1.1.1.2.2.2.2, ⟨hk.1.1.1.1.2, ⟨hk.1.1.1.2, ⟨hk.1.1.2, hk.1.2⟩⟩⟩⟩⟩⟩⟩⟩)))⟩; have n2_ : Aside0 (Kd.R (Kd.int .i64) 3 w68 w.heap.size (fun k_ => some k_ ≠ (v282 : Value).ownBlock ∧ some k_ ≠ (v285 : Value).ownBlock ∧ some k_ ≠ (v291 : Value).ownBlock ∧ some k_ ≠ (.slice Ao43 t293.length co43 : Value).ownBlock ∧ some k_ ≠ (.slice Ao45 t296.length co45 : Value).ownBlock ∧ some k_ ≠ (.slice Ao51 t301.length co51 : Value).ownBlock ∧ some k_ ≠ (.slice Ao56 t304.length co56 : Value).ownBlock ∧ some k_ ≠ (.slice Ao61 t308.length co61 : Value).ownBlock ∧ some k_ ≠ (.slice Ao67 t311.length co67 : Value).ownBlock) v288 t287) := ⟨(by rw [hw]; exact (by refine RU ?_; exact Kd.R_mono (Kd.R_far (p := ⟨gb314, 1, none⟩) (Kd.R_far (p := ⟨gb314, 0, none⟩) (Kd.R_types HO289.out BK314.out (by decide)) (fun _ hk => hk.2) (.slice Ao61 t308.length co61)) (fun _ hk => hk.2) (.slice Ao67 t311.length co67)) (fun _ hk => ⟨hk.1.1.1.1.1.1, ⟨hk.1.1.1.1.1.2.1, ⟨hk.1.1.1.1.1.2.2.1, ⟨hk.1.1.1.1.1.2.2.2.1, ⟨hk.1.1.1.1.1.2.2.2.2, ⟨hk.1.1.1.1.2, ⟨hk.1.1.1.2, ⟨hk.1.1.2, hk.1.2⟩⟩⟩⟩⟩⟩⟩⟩)))⟩; have n3_ : Aside0 (Kd.R (Kd.int .i64) 3 w68 w.heap.size (fun k_ => some k_ ≠ (v282 : Value).ownBlock ∧ some k_ ≠ (v285 : Value).ownBlock ∧ some k_ ≠ (v288 : Value).ownBlock ∧ some k_ ≠ (.slice Ao43 t293.length co43 : Value).ownBlock ∧ some k_ ≠ (.slice Ao45 t296.length co45 : Value).ownBlock ∧ some k_ ≠ (.slice Ao51 t301.length co51 : Value).ownBlock ∧ some k_ ≠ (.slice Ao56 t304.length co56 : Value).ownBlock ∧ some k_ ≠ (.slice Ao61 t308.length co61 : Value).ownBlock ∧ some k_ ≠ (.slice Ao67 t311.length co67 : Value).ownBlock) v291 t290) := ⟨(by rw [hw]; exact (by refine RU ?_; exact Kd.R_mono (Kd.R_far (p := ⟨gb314, 1, none⟩) (Kd.R_far (p := ⟨gb314, 0, none⟩) (Kd.R_types HO292.out BK314.out (by decide)) (fun _ hk => hk.2) (.slice Ao61 t308.length co61)) (fun _ hk => hk.2) (.slice Ao67 t311.length co67)) (fun _ hk => ⟨hk.1.1.1.1.1.1, ⟨hk.1.1.1.1.1.2.1, ⟨hk.1.1.1.1.1.2.2.1, ⟨hk.1.1.1.1.1.2.2.2.1, ⟨hk.1.1.1.1.1.2.2.2.2, ⟨hk.1.1.1.1.2, ⟨hk.1.1.1.2, ⟨hk.1.1.2, hk.1.2⟩⟩⟩⟩⟩⟩⟩⟩)))⟩; have n4_ : Aside0 (Kd.R (Kd.int .i64) 3 w68 w.heap.size (fun k_ => some k_ ≠ (v282 : Value).ownBlock ∧ some k_ ≠ (v285 : Value).ownBlock ∧ some k_ ≠ (v288 : Value).ownBlock ∧ some k_ ≠ (v291 : Value).ownBlock ∧ some k_ ≠ (.slice Ao45 t296.length co45 : Value).ownBlock ∧ some k_ ≠ (.slice Ao51 t301.length co51 : Value).ownBlock ∧ some k_ ≠ (.slice Ao56 t304.length co56 : Value).ownBlock ∧ some k_ ≠ (.slice Ao61 t308.length co61 : Value).ownBlock ∧ some k_ ≠ (.slice Ao67 t311.length co67 : Value).ownBlock) (.slice Ao43 t293.length co43) t293) := ⟨(by rw [hw]; exact (by refine RU ?_; exact Kd.R_mono (Kd.R_far (p := ⟨gb314, 1, none⟩) (Kd.R_far (p := ⟨gb314, 0, none⟩) (Kd.R_types HO295.out BK314.out (by decide)) (fun _ hk => hk.2) (.slice Ao61 t308.length co61)) (fun _ hk => hk.2) (.slice Ao67 t311.length co67)) (fun _ hk => ⟨hk.1.1.1.1.1.1, ⟨hk.1.1.1.1.1.2.1, ⟨hk.1.1.1.1.1.2.2.1, ⟨hk.1.1.1.1.1.2.2.2.1, ⟨hk.1.1.1.1.1.2.2.2.2, ⟨hk.1.1.1.1.2, ⟨hk.1.1.1.2, ⟨hk.1.1.2, hk.1.2⟩⟩⟩⟩⟩⟩⟩⟩)))⟩; have n5_ : Aside0 (Kd.R (Kd.int .i64) 3 w68 w.heap.size (fun k_ => some k_ ≠ (v282 : Value).ownBlock ∧ some k_ ≠ (v285 : Value).ownBlock ∧ some k_ ≠ (v288 : Value).ownBlock ∧ some k_ ≠ (v291 : Value).ownBlock ∧ some k_ ≠ (.slice Ao43 t293.length co43 : Value).ownBlock ∧ some k_ ≠ (.slice Ao51 t301.length co51 : Value).ownBlock ∧ some k_ ≠ (.slice Ao56 t304.length co56 : Value).ownBlock ∧ some k_ ≠ (.slice Ao61 t308.length co61 : Value).ownBlock ∧ some k_ ≠ (.slice Ao67 t311.length co67 : Value).ownBlock) (.slice Ao45 t296.length co45) t296) := ⟨(by rw [hw]; exact (by refine RU ?_; exact Kd.R_mono (Kd.R_far (p := ⟨gb314, 1, none⟩) (Kd.R_far (p := ⟨gb314, 0, none⟩) (Kd.R_types HO298.out BK314.out (by decide)) (fun _ hk => hk.2) (.slice Ao61 t308.length co61)) (fun _ hk => hk.2) (.slice Ao67 t311.length co67)) (fun _ hk => ⟨hk.1.1.1.1.1.1, ⟨hk.1.1.1.1.1.2.1, ⟨hk.1.1.1.1.1.2.2.1, ⟨hk.1.1.1.1.1.2.2.2.1, ⟨hk.1.1.1.1.1.2.2.2.2, ⟨hk.1.1.1.1.2, ⟨hk.1.1.1.2, ⟨hk.1.1.2, hk.1.2⟩⟩⟩⟩⟩⟩⟩⟩)))⟩; have n6_ : Aside0 (Kd.R (Kd.int .i64) 3 w68 w.heap.size (fun k_ => some k_ ≠ (v282 : Value).ownBlock ∧ some k_ ≠ (v285 : Value).ownBlock ∧ some k_ ≠ (v288 : Value).ownBlock ∧ some k_ ≠ (v291 : Value).ownBlock ∧ some k_ ≠ (.slice Ao43 t293.length co43 : Value).ownBlock ∧ some k_ ≠ (.slice Ao45 t296.length co45 : Value).ownBlock ∧ some k_ ≠ (.slice Ao56 t304.length co56 : Value).ownBlock ∧ some k_ ≠ (.slice Ao61 t308.length co61 : Value).ownBlock ∧ some k_ ≠ (.slice Ao67 t311.length co67 : Value).ownBlock) (.slice Ao51 t301.length co51) t301) := ⟨(by rw [hw]; exact (by refine RU ?_; exact Kd.R_mono (Kd.R_far (p := ⟨gb314, 1, none⟩) (Kd.R_far (p := ⟨gb314, 0, none⟩) (Kd.R_types HO303.out BK314.out (by decide)) (fun _ hk => hk.2) (.slice Ao61 t308.length co61)) (fun _ hk => hk.2) (.slice Ao67 t311.length co67)) (fun _ hk => ⟨hk.1.1.1.1.1.1.1.1.2, ⟨hk.1.1.1.1.1.1.1.2, ⟨hk.1.1.1.1.1.1.2, ⟨hk.1.1.1.1.1.2, ⟨hk.1.1.1.1.2, ⟨hk.1.1.1.2, ⟨hk.1.1.1.1.1.1.1.1.1, ⟨hk.1.1.2, hk.1.2⟩⟩⟩⟩⟩⟩⟩⟩)))⟩; have n7_ : Aside0 (Kd.R (Kd.int .i64) 3 w68 w.heap.size (fun k_ => some k_ ≠ (v282 : Value).ownBlock ∧ some k_ ≠ (v285 : Value).ownBlock ∧ some k_ ≠ (v288 : Value).ownBlock ∧ some k_ ≠ (v291 : Value).ownBlock ∧ some k_ ≠ (.slice Ao43 t293.length co43 : Value).ownBlock ∧ some k_ ≠ (.slice Ao45 t296.length co45 : Value).ownBlock ∧ some k_ ≠ (.slice Ao51 t301.length co51 : Value).ownBlock ∧ some k_ ≠ (.slice Ao61 t308.length co61 : Value).ownBlock ∧ some k_ ≠ (.slice Ao67 t311.length co67 : Value).ownBlock) (.slice Ao56 t304.length co56) t304) := ⟨(by rw [hw]; exact (by refine RU ?_; exact Kd.R_mono (Kd.R_far (p := ⟨gb314, 1, none⟩) (Kd.R_far (p := ⟨gb314, 0, none⟩) (Kd.R_types HO306.out BK314.out (by decide)) (fun _ hk => hk.2) (.slice Ao61 t308.length co61)) (fun _ hk => hk.2) (.slice Ao67 t311.length co67)) (fun _ hk => ⟨hk.1.1.1.1.1.1.1.1.2, ⟨hk.1.1.1.1.1.1.1.2, ⟨hk.1.1.1.1.1.1.2, ⟨hk.1.1.1.1.1.2, ⟨hk.1.1.1.1.2, ⟨hk.1.1.1.2, ⟨hk.1.1.1.1.1.1.1.1.1, ⟨hk.1.1.2, hk.1.2⟩⟩⟩⟩⟩⟩⟩⟩)))⟩; have n8_ : Aside0 (Kd.R (Kd.int .i64) 3 w68 w.heap.size (fun k_ => some k_ ≠ (v282 : Value).ownBlock ∧ some k_ ≠ (v285 : Value).ownBlock ∧ some k_ ≠ (v288 : Value).ownBlock ∧ some k_ ≠ (v291 : Value).ownBlock ∧ some k_ ≠ (.slice Ao43 t293.length co43 : Value).ownBlock ∧ some k_ ≠ (.slice Ao45 t296.length co45 : Value).ownBlock ∧ some k_ ≠ (.slice Ao51 t301.length co51 : Value).ownBlock ∧ some k_ ≠ (.slice Ao56 t304.length co56 : Value).ownBlock ∧ some k_ ≠ (.slice Ao67 t311.length co67 : Value).ownBlock) (.slice Ao61 t308.length co61) t308) := ⟨(by rw [hw]; exact (by refine RU ?_; exact Kd.R_mono (Kd.R_far (p := ⟨gb314, 1, none⟩) (Kd.R_far (p := ⟨gb314, 0, none⟩) (Kd.R_types HO310.out BK314.out (by decide)) (fun _ hk => hk.2) (.slice Ao61 t308.length co61)) (fun _ hk => hk.2) (.slice Ao67 t311.length co67)) (fun _ hk => ⟨hk.1.1.1.1.1.1.1.1.2, ⟨hk.1.1.1.1.1.1.1.2, ⟨hk.1.1.1.1.1.1.2, ⟨hk.1.1.1.1.1.2, ⟨hk.1.1.1.1.2, ⟨hk.1.1.1.2, ⟨hk.1.1.2, ⟨hk.1.2, hk.1.1.1.1.1.1.1.1.1⟩⟩⟩⟩⟩⟩⟩⟩)))⟩; have n9_ : Aside0 (Kd.R (Kd.int .i64) 3 w68 w.heap.size (fun k_ => some k_ ≠ (v282 : Value).ownBlock ∧ some k_ ≠ (v285 : Value).ownBlock ∧ some k_ ≠ (v288 : Value).ownBlock ∧ some k_ ≠ (v291 : Value).ownBlock ∧ some k_ ≠ (.slice Ao43 t293.length co43 : Value).ownBlock ∧ some k_ ≠ (.slice Ao45 t296.length co45 : Value).ownBlock ∧ some k_ ≠ (.slice Ao51 t301.length co51 : Value).ownBlock ∧ some k_ ≠ (.slice Ao56 t304.length co56 : Value).ownBlock ∧ some k_ ≠ (.slice Ao61 t308.length co61 : Value).ownBlock) (.slice Ao67 t311.length co67) t311) := ⟨(by rw [hw]; exact (by refine RU ?_; exact Kd.R_mono (Kd.R_far (p := ⟨gb314, 1, none⟩) (Kd.R_far (p := ⟨gb314, 0, none⟩) (Kd.R_types HO313.out BK314.out (by decide)) (fun _ hk => hk.2) (.slice Ao61 t308.length co61)) (fun _ hk => hk.2) (.slice Ao67 t311.length co67)) (fun _ hk => ⟨hk.1.1.1.1.1.1.1.1.2, ⟨hk.1.1.1.1.1.1.1.2, ⟨hk.1.1.1.1.1.1.2, ⟨hk.1.1.1.1.1.2, ⟨hk.1.1.1.1.2, ⟨hk.1.1.1.2, ⟨hk.1.1.2, ⟨hk.1.2, hk.1.1.1.1.1.1.1.1.1⟩⟩⟩⟩⟩⟩⟩⟩)))⟩; have n10_ : Aside0 (w68.heap[gb277]? = some (.cells #[.slice A0_0 l0_0.length c0_0, .slice A0_1 l0_1.length c0_1] 24 (0, 0))) := ⟨(by rw [hw]; exact (by refine kU ?_; refine blk_far ?_ NB277_314.out _; refine kU ?_; refine blk_far ?_ NB277_314.out _; refine kU ?_; exact BK277.out))⟩; have n11_ : Aside0 (w68.heap[gb278]? = some (.cells #[.slice A1_0 l1_0.length c1_0, .slice A1_1 l1_1.length c1_1] 24 (0, 0))) := ⟨(by rw [hw]; exact (by refine kU ?_; refine blk_far ?_ NB278_314.out _; refine kU ?_; refine blk_far ?_ NB278_314.out _; refine kU ?_; exact BK278.out))⟩; have n12_ : Aside0 (w68.heap[gb300]? = some (.cells #[.slice Ao43 t293.length co43, .slice Ao45 t296.length co45] 28 (0, 0))) := ⟨(by rw [hw]; exact (by refine kU ?_; refine blk_far ?_ NB300_314.out _; refine kU ?_; refine blk_far ?_ NB300_314.out _; refine kU ?_; exact BK300.out))⟩; have n13_ : Aside0 (w68.heap[gb307]? = some (.cells #[.slice Ao51 t301.length co51, .slice Ao56 t304.length co56] 28 (0, 0))) := ⟨(by rw [hw]; exact (by refine kU ?_; refine blk_far ?_ NB307_314.out _; refine kU ?_; refine blk_far ?_ NB307_314.out _; refine kU ?_; exact BK307.out))⟩; have n14_ : Aside0 (w68.heap[gb314]? = some (.cells #[.slice Ao61 t308.length co61, .slice Ao67 t311.length co67] 28 (0, 0))) := ⟨(by rw [hw]; exact (by refine kU ?_; refine blk_put (cs := #[.slice Ao61 t308.length co61, .slice none 0 0]) ?_ 1 _ rfl; refine kU ?_; refine blk_put (cs := #[.slice none 0 0, .slice none 0 0]) ?_ 0 _ rfl; refine kU ?_; exact BK314.out))⟩; have n15_ : Aside0 (Below w.heap.size w w68) := ⟨(by rw [hw]; exact (bS5 HB.out GE277.out GE278.out GE300.out GE307.out GE314.out))⟩; clear hw; clear HO283; clear HO286; clear HO289; clear HO292; clear HO295; clear HO298; clear HO303; clear HO306; clear HO310; clear HO313; clear BK277; clear BK278; clear BK300; clear BK307; clear BK314; clear HB; have HO283 := n0_; have HO286 := n1_; have HO289 := n2_; have HO292 := n3_; have HO295 := n4_; have HO298 := n5_; have HO303 := n6_; have HO306 := n7_; have HO310 := n8_; have HO313 := n9_; have BK277 := n10_; have BK278 := n11_; have BK300 := n12_; have BK307 := n13_; have BK314 := n14_; have HB := n15_; clear n0_ n1_ n2_ n3_ n4_ n5_ n6_ n7_ n8_ n9_ n10_ n11_ n12_ n13_ n14_ n15_; have hcz69_0 : w68.cell? ⟨gb307, 0, none⟩ = some (.slice Ao51 t301.length co51) := (blk_cell BK307.out 0).trans rfl; have hcz69_1 : w68.cell? ⟨gb307, 1, none⟩ = some (.slice Ao56 t304.length co56) := (blk_cell BK307.out 1).trans rfl; have hfz69_0 := blk_frozen BK307.out 0; have hfz69_1 := blk_frozen BK307.out 1; have hcz70_0 : w68.cell? ⟨gb314, 0, none⟩ = some (.slice Ao61 t308.length co61) := (blk_cell BK314.out 0).trans rfl; have hcz70_1 : w68.cell? ⟨gb314, 1, none⟩ = some (.slice Ao67 t311.length co67) := (blk_cell BK314.out 1).trans rfl; have hfz70_0 := blk_frozen BK314.out 0; have hfz70_1 := blk_frozen BK314.out 1) | ((with_reducible refine gate_callee (f := 15) rfl ?_); refine goesL_ (some 42) rfl rfl Try.func15 (by kernel_rfl) rfl #[.agg #[.slice Ao51 t301.length co51, .slice Ao56 t304.length co56], .agg #[.slice Ao61 t308.length co61, .slice Ao67 t311.length co67]] rfl lU ?_; (with_reducible refine (impl_Pick.calls k (fun k_ => some k_ = (.slice Ao51 t301.length co51 : Value).ownBlock) _ _ t301 _ _ t304 (fun k_ => some k_ = (.slice Ao61 t308.length co61 : Value).ownBlock) _ _ t308 _ _ t311 t315 t318 t321 _ ?side1 ?side2 ?side3 ?side4 ?side5 ?side6 A24.out).mono ?_); (case side1 => exact Kd.R_V (Kd.R_tight rfl (Kd.R_types (Kd.R_types (Kd.R_types (Kd.R_types (Kd.R_types (HO303.out) BK277.out (by decide)) BK278.out (by decide)) BK300.out (by decide)) BK307.out (by decide)) BK314.out (by decide)))); (case side2 => exact cU (Kd.R_reads' HO306.out).2.2); (case side3 => exact (Kd.R_reads' HO306.out).2.1); (case side4 => exact Kd.R_V (Kd.R_tight rfl (Kd.R_types (Kd.R_types (Kd.R_types (Kd.R_types (Kd.R_types (HO310.out) BK277.out (by decide)) BK278.out (by decide)) BK300.out (by decide)) BK307.out (by decide)) BK314.out (by decide)))); (case side5 => exact cU (Kd.R_reads' HO313.out).2.2); (case side6 => exact (Kd.R_reads' HO313.out).2.1); rintro e w71 ⟨v316, v319, rfl, ho0, ho1, hb⟩; refine ⟨_, rfl, ?_⟩; have HO317 := Aside0.mk (Kd.R_lower (Kd.R_new' (Kd.R_new' (Kd.R_new' (Kd.R_new' (Kd.R_new' (Kd.R_new' (Kd.R_new' (Kd.R_new' (Kd.R_new' (Kd.R_new' (Kd.R_mono (ok' := fun k_ => some k_ ≠ (v319 : Value).ownBlock) ho0 (fun _ hk_ => hk_.2)) (Kd.R_lt (RU HO283.out))) (Kd.R_lt (RU HO286.out))) (Kd.R_lt (RU HO289.out))) (Kd.R_lt (RU HO292.out))) (Kd.R_lt (RU HO295.out))) (Kd.R_lt (RU HO298.out))) (Kd.R_lt (RU HO303.out))) (Kd.R_lt (RU HO306.out))) (Kd.R_lt (RU HO310.out))) (Kd.R_lt (RU HO313.out))) (below_size (bS5 HB.out GE277.out GE278.out GE300.out GE307.out GE314.out))); have HO320 := Aside0.mk (Kd.R_lower (Kd.R_new' (Kd.R_new' (Kd.R_new' (Kd.R_new' (Kd.R_new' (Kd.R_new' (Kd.R_new' (Kd.R_new' (Kd.R_new' (Kd.R_new' (Kd.R_mono (ok' := fun k_ => some k_ ≠ (v316 : Value).ownBlock) ho1 (fun _ hk_ => hk_.2)) (Kd.R_lt (RU HO283.out))) (Kd.R_lt (RU HO286.out))) (Kd.R_lt (RU HO289.out))) (Kd.R_lt (RU HO292.out))) (Kd.R_lt (RU HO295.out))) (Kd.R_lt (RU HO298.out))) (Kd.R_lt (RU HO303.out))) (Kd.R_lt (RU HO306.out))) (Kd.R_lt (RU HO310.out))) (Kd.R_lt (RU HO313.out))) (below_size (bS5 HB.out GE277.out GE278.out GE300.out GE307.out GE314.out))); replace HO283 := Aside0.mk (Kd.R_mono (Kd.R_told (Kd.R_told (Kd.R_old (RU HO283.out) hb) (Kd.R_base ho0)) (Kd.R_base ho1)) (fun _ h_ => h_.1)); replace HO286 := Aside0.mk (Kd.R_mono (Kd.R_told (Kd.R_told (Kd.R_old (RU HO286.out) hb) (Kd.R_base ho0)) (Kd.R_base ho1)) (fun _ h_ => h_.1)); replace HO289 := Aside0.mk (Kd.R_mono (Kd.R_told (Kd.R_told (Kd.R_old (RU HO289.out) hb) (Kd.R_base ho0)) (Kd.R_base ho1)) (fun _ h_ => h_.1)); replace HO292 := Aside0.mk (Kd.R_mono (Kd.R_told (Kd.R_told (Kd.R_old (RU HO292.out) hb) (Kd.R_base ho0)) (Kd.R_base ho1)) (fun _ h_ => h_.1)); replace HO295 := Aside0.mk (Kd.R_mono (Kd.R_told (Kd.R_told (Kd.R_old (RU HO295.out) hb) (Kd.R_base ho0)) (Kd.R_base ho1)) (fun _ h_ => h_.1)); replace HO298 := Aside0.mk (Kd.R_mono (Kd.R_told (Kd.R_told (Kd.R_old (RU HO298.out) hb) (Kd.R_base ho0)) (Kd.R_base ho1)) (fun _ h_ => h_.1)); replace HO303 := Aside0.mk (Kd.R_mono (Kd.R_told (Kd.R_told (Kd.R_old (RU HO303.out) hb) (Kd.R_base ho0)) (Kd.R_base ho1)) (fun _ h_ => h_.1)); replace HO306 := Aside0.mk (Kd.R_mono (Kd.R_told (Kd.R_told (Kd.R_old (RU HO306.out) hb) (Kd.R_base ho0)) (Kd.R_base ho1)) (fun _ h_ => h_.1)); replace HO310 := Aside0.mk (Kd.R_mono (Kd.R_told (Kd.R_told (Kd.R_old (RU HO310.out) hb) (Kd.R_base ho0)) (Kd.R_base ho1)) (fun _ h_ => h_.1)); replace HO313 := Aside0.mk (Kd.R_mono (Kd.R_told (Kd.R_told (Kd.R_old (RU HO313.out) hb) (Kd.R_base ho0)) (Kd.R_base ho1)) (fun _ h_ => h_.1)); replace BK277 := Aside0.mk (kB BK277.out hb); replace BK278 := Aside0.mk (kB BK278.out hb); replace BK300 := Aside0.mk (kB BK300.out hb); replace BK307 := Aside0.mk (kB BK307.out hb); replace BK314 := Aside0.mk (kB BK314.out hb); replace HB := Aside0.mk (below_step (bS5 HB.out GE277.out GE278.out GE300.out GE307.out GE314.out) hb); (try clear hb); (try clear hb2); (try clear hk); (try clear hi); (try clear ho0); (try clear ho1)) | ((with_reducible refine gate_dst (N := 10) rfl ?_); refine box_event ?hg (N := 10) ?hd (cs := #[.slice none 0 0, .slice none 0 0]) (t := 28) ?hr ?_; (case hd => rfl); (case hg => rfl); (case hr => first | (go_simp; done) | (go_simp; rfl)); intro gb322 hg w72 hbox hb; replace HO283 := Aside0.mk (Kd.R_below (RU HO283.out) hb); replace HO286 := Aside0.mk (Kd.R_below (RU HO286.out) hb); replace HO289 := Aside0.mk (Kd.R_below (RU HO289.out) hb); replace HO292 := Aside0.mk (Kd.R_below (RU HO292.out) hb); replace HO295 := Aside0.mk (Kd.R_below (RU HO295.out) hb); replace HO298 := Aside0.mk (Kd.R_below (RU HO298.out) hb); replace HO303 := Aside0.mk (Kd.R_below (RU HO303.out) hb); replace HO306 := Aside0.mk (Kd.R_below (RU HO306.out) hb); replace HO310 := Aside0.mk (Kd.R_below (RU HO310.out) hb); replace HO313 := Aside0.mk (Kd.R_below (RU HO313.out) hb); replace HO317 := Aside0.mk (Kd.R_below (RU HO317.out) hb); replace HO320 := Aside0.mk (Kd.R_below (RU HO320.out) hb); have BK322 := Aside0.mk (hbox); have GW322 := Aside0.mk ((by rw [hg]; exact (below_size (bS5 HB.out GE277.out GE278.out GE300.out GE307.out GE314.out)) : w.heap.size ≤ gb322)); have GE322 := Aside0.mk ((by rw [hg]; exact (below_size (bS5 HB.out GE277.out GE278.out GE300.out GE307.out GE314.out)) : w.heap.size ≤ gb322)); replace HB := Aside0.mk (below_step (bS5 HB.out GE277.out GE278.out GE300.out GE307.out GE314.out) hb); have NB277_322 := Aside0.mk (kN BK277.out hg); have NB322_277 := Aside0.mk (kM BK277.out hg); replace BK277 := Aside0.mk (kB BK277.out hb); have NB278_322 := Aside0.mk (kN BK278.out hg); have NB322_278 := Aside0.mk (kM BK278.out hg); replace BK278 := Aside0.mk (kB BK278.out hb); have NB300_322 := Aside0.mk (kN BK300.out hg); have NB322_300 := Aside0.mk (kM BK300.out hg); replace BK300 := Aside0.mk (kB BK300.out hb); have NB307_322 := Aside0.mk (kN BK307.out hg); have NB322_307 := Aside0.mk (kM BK307.out hg); replace BK307 := Aside0.mk (kB BK307.out hb); have NB314_322 := Aside0.mk (kN BK314.out hg); have NB322_314 := Aside0.mk (kM BK314.out hg); replace BK314 := Aside0.mk (kB BK314.out hb); clear hb hbox hg; obtain ⟨Ao73, co73, eo73⟩ := Kd.R_slice HO317.out; subst eo73; have hnb74 := NB322_277.out; have hnc74 := NB277_322.out; have hnb75 := NB322_278.out; have hnc75 := NB278_322.out; have hnb76 := NB322_300.out; have hnc76 := NB300_322.out; have hnb77 := NB322_307.out; have hnc77 := NB307_322.out; have hnb78 := NB322_314.out; have hnc78 := NB314_322.out; have hcz79_0 : w72.cell? ⟨gb322, 0, none⟩ = some (.slice none 0 0) := (blk_cell BK322.out 0).trans rfl; have hcz79_1 : w72.cell? ⟨gb322, 1, none⟩ = some (.slice none 0 0) := (blk_cell BK322.out 1).trans rfl; have hfz79_0 := blk_frozen BK322.out 0; have hfz79_1 := blk_frozen BK322.out 1; obtain ⟨Ao80, co80, eo80⟩ := Kd.R_slice HO320.out; subst eo80))
   (try simp only [Act.put, List.setIfInBounds_toArray, List.set_cons_zero, List.set_cons_succ])
   go_cut [53] (fun v53 wc => ∃ (kq : Nat) (x53_24 : Bool), v53 = .bool x53_24 ∧ Aside0 (laws_FnExactPick.j0 kq t299 t321 x53_24 l0_0 l0_1 l1_0 l1_1 t293 t296 t301 t304 t308 t311 t315 t318 = some r) ∧ Aside0 (kq ≤ k) ∧ Aside0 (Kd.R (Kd.int .i64) 3 wc w.heap.size (fun k_ => some k_ ≠ ((.slice Ao45 t296.length co45) : Value).ownBlock ∧ some k_ ≠ ((.slice Ao51 t301.length co51) : Value).ownBlock ∧ some k_ ≠ ((.slice Ao56 t304.length co56) : Value).ownBlock ∧ some k_ ≠ ((.slice Ao61 t308.length co61) : Value).ownBlock ∧ some k_ ≠ ((.slice Ao67 t311.length co67) : Value).ownBlock ∧ some k_ ≠ ((.slice Ao73 t315.length co73) : Value).ownBlock ∧ some k_ ≠ ((.slice Ao80 t318.length co80) : Value).ownBlock) (.slice Ao43 t293.length co43) t293) ∧ Aside0 (Kd.R (Kd.int .i64) 3 wc w.heap.size (fun k_ => some k_ ≠ ((.slice Ao43 t293.length co43) : Value).ownBlock ∧ some k_ ≠ ((.slice Ao51 t301.length co51) : Value).ownBlock ∧ some k_ ≠ ((.slice Ao56 t304.length co56) : Value).ownBlock ∧ some k_ ≠ ((.slice Ao61 t308.length co61) : Value).ownBlock ∧ some k_ ≠ ((.slice Ao67 t311.length co67) : Value).ownBlock ∧ some k_ ≠ ((.slice Ao73 t315.length co73) : Value).ownBlock ∧ some k_ ≠ ((.slice Ao80 t318.length co80) : Value).ownBlock) (.slice Ao45 t296.length co45) t296) ∧ Aside0 (Kd.R (Kd.int .i64) 3 wc w.heap.size (fun k_ => some k_ ≠ ((.slice Ao43 t293.length co43) : Value).ownBlock ∧ some k_ ≠ ((.slice Ao45 t296.length co45) : Value).ownBlock ∧ some k_ ≠ ((.slice Ao56 t304.length co56) : Value).ownBlock ∧ some k_ ≠ ((.slice Ao61 t308.length co61) : Value).ownBlock ∧ some k_ ≠ ((.slice Ao67 t311.length co67) : Value).ownBlock ∧ some k_ ≠ ((.slice Ao73 t315.length co73) : Value).ownBlock ∧ some k_ ≠ ((.slice Ao80 t318.length co80) : Value).ownBlock) (.slice Ao51 t301.length co51) t301) ∧ Aside0 (Kd.R (Kd.int .i64) 3 wc w.heap.size (fun k_ => some k_ ≠ ((.slice Ao43 t293.length co43) : Value).ownBlock ∧ some k_ ≠ ((.slice Ao45 t296.length co45) : Value).ownBlock ∧ some k_ ≠ ((.slice Ao51 t301.length co51) : Value).ownBlock ∧ some k_ ≠ ((.slice Ao61 t308.length co61) : Value).ownBlock ∧ some k_ ≠ ((.slice Ao67 t311.length co67) : Value).ownBlock ∧ some k_ ≠ ((.slice Ao73 t315.length co73) : Value).ownBlock ∧ some k_ ≠ ((.slice Ao80 t318.length co80) : Value).ownBlock) (.slice Ao56 t304.length co56) t304) ∧ Aside0 (Kd.R (Kd.int .i64) 3 wc w.heap.size (fun k_ => some k_ ≠ ((.slice Ao43 t293.length co43) : Value).ownBlock ∧ some k_ ≠ ((.slice Ao45 t296.length co45) : Value).ownBlock ∧ some k_ ≠ ((.slice Ao51 t301.length co51) : Value).ownBlock ∧ some k_ ≠ ((.slice Ao56 t304.length co56) : Value).ownBlock ∧ some k_ ≠ ((.slice Ao67 t311.length co67) : Value).ownBlock ∧ some k_ ≠ ((.slice Ao73 t315.length co73) : Value).ownBlock ∧ some k_ ≠ ((.slice Ao80 t318.length co80) : Value).ownBlock) (.slice Ao61 t308.length co61) t308) ∧ Aside0 (Kd.R (Kd.int .i64) 3 wc w.heap.size (fun k_ => some k_ ≠ ((.slice Ao43 t293.length co43) : Value).ownBlock ∧ some k_ ≠ ((.slice Ao45 t296.length co45) : Value).ownBlock ∧ some k_ ≠ ((.slice Ao51 t301.length co51) : Value).ownBlock ∧ some k_ ≠ ((.slice Ao56 t304.length co56) : Value).ownBlock ∧ some k_ ≠ ((.slice Ao61 t308.length co61) : Value).ownBlock ∧ some k_ ≠ ((.slice Ao73 t315.length co73) : Value).ownBlock ∧ some k_ ≠ ((.slice Ao80 t318.length co80) : Value).ownBlock) (.slice Ao67 t311.length co67) t311) ∧ Aside0 (Kd.R (Kd.int .i64) 3 wc w.heap.size (fun k_ => some k_ ≠ ((.slice Ao43 t293.length co43) : Value).ownBlock ∧ some k_ ≠ ((.slice Ao45 t296.length co45) : Value).ownBlock ∧ some k_ ≠ ((.slice Ao51 t301.length co51) : Value).ownBlock ∧ some k_ ≠ ((.slice Ao56 t304.length co56) : Value).ownBlock ∧ some k_ ≠ ((.slice Ao61 t308.length co61) : Value).ownBlock ∧ some k_ ≠ ((.slice Ao67 t311.length co67) : Value).ownBlock ∧ some k_ ≠ ((.slice Ao80 t318.length co80) : Value).ownBlock) (.slice Ao73 t315.length co73) t315) ∧ Aside0 (Kd.R (Kd.int .i64) 3 wc w.heap.size (fun k_ => some k_ ≠ ((.slice Ao43 t293.length co43) : Value).ownBlock ∧ some k_ ≠ ((.slice Ao45 t296.length co45) : Value).ownBlock ∧ some k_ ≠ ((.slice Ao51 t301.length co51) : Value).ownBlock ∧ some k_ ≠ ((.slice Ao56 t304.length co56) : Value).ownBlock ∧ some k_ ≠ ((.slice Ao61 t308.length co61) : Value).ownBlock ∧ some k_ ≠ ((.slice Ao67 t311.length co67) : Value).ownBlock ∧ some k_ ≠ ((.slice Ao73 t315.length co73) : Value).ownBlock) (.slice Ao80 t318.length co80) t318) ∧ Aside0 (wc.heap[gb277]? = some (.cells #[(.slice A0_0 l0_0.length c0_0), (.slice A0_1 l0_1.length c0_1)] 24 (0, 0))) ∧ Aside0 (wc.heap[gb278]? = some (.cells #[(.slice A1_0 l1_0.length c1_0), (.slice A1_1 l1_1.length c1_1)] 24 (0, 0))) ∧ Aside0 (wc.heap[gb300]? = some (.cells #[(.slice Ao43 t293.length co43), (.slice Ao45 t296.length co45)] 28 (0, 0))) ∧ Aside0 (wc.heap[gb307]? = some (.cells #[(.slice Ao51 t301.length co51), (.slice Ao56 t304.length co56)] 28 (0, 0))) ∧ Aside0 (wc.heap[gb314]? = some (.cells #[(.slice Ao61 t308.length co61), (.slice Ao67 t311.length co67)] 28 (0, 0))) ∧ Aside0 (wc.heap[gb322]? = some (.cells #[(.slice Ao73 t315.length co73), (.slice Ao80 t318.length co80)] 28 (0, 0))) ∧ Aside0 (Below w.heap.size w wc))
   case first =>
    have H := HC25.out
    clear HC25
    replace H := Option.bind_eq_some_iff.mp H
    obtain ⟨t323, A810, H⟩ := H
    replace H : (if t323 = true then (laws_FnExactPick.j0 k t299 t321 (t321 != t299) l0_0 l0_1 l1_0 l1_1 t293 t296 t301 t304 t308 t311 t315 t318) else (laws_FnExactPick.j0 k t299 t321 true l0_0 l0_1 l1_0 l1_1 t293 t296 t301 t304 t308 t311 t315 t318)) = some r := H
    have A81 := Aside0.mk A810
    clear A810
    by_cases c82 : t323 = true
    ·
     subst c82
     have H1 : (laws_FnExactPick.j0 k t299 t321 (t321 != t299) l0_0 l0_1 l1_0 l1_1 t293 t296 t301 t304 t308 t311 t315 t318) = some r := by rw [if_pos rfl] at H; exact H
     clear H
     have H := H1
     clear H1
     have H' := Aside0.mk H
     clear H
     have hnb83 := NB322_277.out
     have hnc83 := NB277_322.out
     have hnb84 := NB322_278.out
     have hnc84 := NB278_322.out
     have hnb85 := NB322_300.out
     have hnc85 := NB300_322.out
     have hnb86 := NB322_307.out
     have hnc86 := NB307_322.out
     have hnb87 := NB322_314.out
     have hnc87 := NB314_322.out
     have hcz88_0 : w72.cell? ⟨gb322, 0, none⟩ = some (.slice none 0 0) := (blk_cell BK322.out 0).trans rfl
     have hcz88_1 : w72.cell? ⟨gb322, 1, none⟩ = some (.slice none 0 0) := (blk_cell BK322.out 1).trans rfl
     have hfz88_0 := blk_frozen BK322.out 0
     have hfz88_1 := blk_frozen BK322.out 1
     have hnb89 := NB300_277.out
     have hnc89 := NB277_300.out
     have hnb90 := NB300_278.out
     have hnc90 := NB278_300.out
     have hnb91 := NB300_307.out
     have hnc91 := NB307_300.out
     have hnb92 := NB300_314.out
     have hnc92 := NB314_300.out
     have hcz93_0 : w72.cell? ⟨gb300, 0, none⟩ = some (.slice Ao43 t293.length co43) := (blk_cell BK300.out 0).trans rfl
     have hcz93_1 : w72.cell? ⟨gb300, 1, none⟩ = some (.slice Ao45 t296.length co45) := (blk_cell BK300.out 1).trans rfl
     have hfz93_0 := blk_frozen BK300.out 0
     have hfz93_1 := blk_frozen BK300.out 1
     go_wp2_with (first | ((with_reducible refine gate_callee (f := 10) rfl ?_); refine goesL_ (some 47) rfl rfl Try.func10 (by kernel_rfl) rfl #[.agg #[.slice Ao73 t315.length co73, .slice Ao80 t318.length co80], .agg #[.slice Ao43 t293.length co43, .slice Ao45 t296.length co45]] rfl lU ?_; (with_reducible refine (laws_eqArray.calls k _ _ t315 _ _ t318 _ _ t293 _ _ t296 true _ ?side1 ?side2 ?side3 ?side4 ?side5 ?side6 ?side7 ?side8 A81.out).mono ?_); (case side1 => refine (Kd.R_reads' (e := 3) (base := w.heap.size) (ok := fun k_ => ((((((((((some k_ ≠ (.slice Ao80 t318.length co80 : Value).ownBlock ∧ some k_ ≠ (v282 : Value).ownBlock) ∧ some k_ ≠ (v285 : Value).ownBlock) ∧ some k_ ≠ (v288 : Value).ownBlock) ∧ some k_ ≠ (v291 : Value).ownBlock) ∧ some k_ ≠ (.slice Ao43 t293.length co43 : Value).ownBlock) ∧ some k_ ≠ (.slice Ao45 t296.length co45 : Value).ownBlock) ∧ some k_ ≠ (.slice Ao51 t301.length co51 : Value).ownBlock) ∧ some k_ ≠ (.slice Ao56 t304.length co56 : Value).ownBlock) ∧ some k_ ≠ (.slice Ao61 t308.length co61 : Value).ownBlock) ∧ some k_ ≠ (.slice Ao67 t311.length co67 : Value).ownBlock)) (n := t315.length) (c := co73) ?_).2.2; exact (by refine RU ?_; exact (far2 HO317.out BK322.out))); (case side2 => exact (Kd.R_reads' HO317.out).2.1); (case side3 => refine (Kd.R_reads' (e := 3) (base := w.heap.size) (ok := fun k_ => ((((((((((some k_ ≠ (.slice Ao73 t315.length co73 : Value).ownBlock ∧ some k_ ≠ (v282 : Value).ownBlock) ∧ some k_ ≠ (v285 : Value).ownBlock) ∧ some k_ ≠ (v288 : Value).ownBlock) ∧ some k_ ≠ (v291 : Value).ownBlock) ∧ some k_ ≠ (.slice Ao43 t293.length co43 : Value).ownBlock) ∧ some k_ ≠ (.slice Ao45 t296.length co45 : Value).ownBlock) ∧ some k_ ≠ (.slice Ao51 t301.length co51 : Value).ownBlock) ∧ some k_ ≠ (.slice Ao56 t304.length co56 : Value).ownBlock) ∧ some k_ ≠ (.slice Ao61 t308.length co61 : Value).ownBlock) ∧ some k_ ≠ (.slice Ao67 t311.length co67 : Value).ownBlock)) (n := t318.length) (c := co80) ?_).2.2; exact (by refine RU ?_; exact (far2 HO320.out BK322.out))); (case side4 => exact (Kd.R_reads' HO320.out).2.1); (case side5 => refine (Kd.R_reads' (e := 3) (base := w.heap.size) (ok := fun k_ => (((some k_ ≠ (v282 : Value).ownBlock ∧ (some k_ ≠ (v285 : Value).ownBlock ∧ (some k_ ≠ (v288 : Value).ownBlock ∧ (some k_ ≠ (v291 : Value).ownBlock ∧ (some k_ ≠ (.slice Ao45 t296.length co45 : Value).ownBlock ∧ (some k_ ≠ (.slice Ao51 t301.length co51 : Value).ownBlock ∧ (some k_ ≠ (.slice Ao56 t304.length co56 : Value).ownBlock ∧ (some k_ ≠ (.slice Ao61 t308.length co61 : Value).ownBlock ∧ some k_ ≠ (.slice Ao67 t311.length co67 : Value).ownBlock)))))))) ∧ some k_ ≠ (.slice Ao73 t315.length co73 : Value).ownBlock) ∧ some k_ ≠ (.slice Ao80 t318.length co80 : Value).ownBlock)) (n := t293.length) (c := co43) ?_).2.2; exact (by refine RU ?_; exact (far2 HO295.out BK322.out))); (case side6 => exact (Kd.R_reads' HO295.out).2.1); (case side7 => refine (Kd.R_reads' (e := 3) (base := w.heap.size) (ok := fun k_ => (((some k_ ≠ (v282 : Value).ownBlock ∧ (some k_ ≠ (v285 : Value).ownBlock ∧ (some k_ ≠ (v288 : Value).ownBlock ∧ (some k_ ≠ (v291 : Value).ownBlock ∧ (some k_ ≠ (.slice Ao43 t293.length co43 : Value).ownBlock ∧ (some k_ ≠ (.slice Ao51 t301.length co51 : Value).ownBlock ∧ (some k_ ≠ (.slice Ao56 t304.length co56 : Value).ownBlock ∧ (some k_ ≠ (.slice Ao61 t308.length co61 : Value).ownBlock ∧ some k_ ≠ (.slice Ao67 t311.length co67 : Value).ownBlock)))))))) ∧ some k_ ≠ (.slice Ao73 t315.length co73 : Value).ownBlock) ∧ some k_ ≠ (.slice Ao80 t318.length co80 : Value).ownBlock)) (n := t296.length) (c := co45) ?_).2.2; exact (by refine RU ?_; exact (far2 HO298.out BK322.out))); (case side8 => exact (Kd.R_reads' HO298.out).2.1); rintro e w94 ⟨rfl, hb⟩; refine ⟨_, rfl, ?_⟩; replace HO283 := Aside0.mk (Kd.R_below (by refine RU ?_; exact (far2 HO283.out BK322.out)) hb); replace HO286 := Aside0.mk (Kd.R_below (by refine RU ?_; exact (far2 HO286.out BK322.out)) hb); replace HO289 := Aside0.mk (Kd.R_below (by refine RU ?_; exact (far2 HO289.out BK322.out)) hb); replace HO292 := Aside0.mk (Kd.R_below (by refine RU ?_; exact (far2 HO292.out BK322.out)) hb); replace HO295 := Aside0.mk (Kd.R_below (by refine RU ?_; exact (far2 HO295.out BK322.out)) hb); replace HO298 := Aside0.mk (Kd.R_below (by refine RU ?_; exact (far2 HO298.out BK322.out)) hb); replace HO303 := Aside0.mk (Kd.R_below (by refine RU ?_; exact (far2 HO303.out BK322.out)) hb); replace HO306 := Aside0.mk (Kd.R_below (by refine RU ?_; exact (far2 HO306.out BK322.out)) hb); replace HO310 := Aside0.mk (Kd.R_below (by refine RU ?_; exact (far2 HO310.out BK322.out)) hb); replace HO313 := Aside0.mk (Kd.R_below (by refine RU ?_; exact (far2 HO313.out BK322.out)) hb); replace HO317 := Aside0.mk (Kd.R_below (by refine RU ?_; exact (far2 HO317.out BK322.out)) hb); replace HO320 := Aside0.mk (Kd.R_below (by refine RU ?_; exact (far2 HO320.out BK322.out)) hb); replace BK277 := Aside0.mk (blk_below (g := gb277) (o := .cells #[.slice A0_0 l0_0.length c0_0, .slice A0_1 l0_1.length c0_1] 24 (0, 0)) (by refine kU ?_; refine blk_far ?_ NB277_322.out _; refine kU ?_; refine blk_far ?_ NB277_322.out _; refine kU ?_; exact BK277.out) hb); replace BK278 := Aside0.mk (blk_below (g := gb278) (o := .cells #[.slice A1_0 l1_0.length c1_0, .slice A1_1 l1_1.length c1_1] 24 (0, 0)) (by refine kU ?_; refine blk_far ?_ NB278_322.out _; refine kU ?_; refine blk_far ?_ NB278_322.out _; refine kU ?_; exact BK278.out) hb); replace BK300 := Aside0.mk (blk_below (g := gb300) (o := .cells #[.slice Ao43 t293.length co43, .slice Ao45 t296.length co45] 28 (0, 0)) (by refine kU ?_; refine blk_far ?_ NB300_322.out _; refine kU ?_; refine blk_far ?_ NB300_322.out _; refine kU ?_; exact BK300.out) hb); replace BK307 := Aside0.mk (blk_below (g := gb307) (o := .cells #[.slice Ao51 t301.length co51, .slice Ao56 t304.length co56] 28 (0, 0)) (by refine kU ?_; refine blk_far ?_ NB307_322.out _; refine kU ?_; refine blk_far ?_ NB307_322.out _; refine kU ?_; exact BK307.out) hb); replace BK314 := Aside0.mk (blk_below (g := gb314) (o := .cells #[.slice Ao61 t308.length co61, .slice Ao67 t311.length co67] 28 (0, 0)) (by refine kU ?_; refine blk_far ?_ NB314_322.out _; refine kU ?_; refine blk_far ?_ NB314_322.out _; refine kU ?_; exact BK314.out) hb); replace BK322 := Aside0.mk (blk_below (g := gb322) (o := .cells #[.slice Ao73 t315.length co73, .slice Ao80 t318.length co80] 28 (0, 0)) (by refine kU ?_; refine blk_put (cs := #[.slice Ao73 t315.length co73, .slice none 0 0]) ?_ 1 _ rfl; refine kU ?_; refine blk_put (cs := #[.slice none 0 0, .slice none 0 0]) ?_ 0 _ rfl; refine kU ?_; exact BK322.out) hb); replace HB := Aside0.mk (below_step (bS6 HB.out GE277.out GE278.out GE300.out GE307.out GE314.out GE322.out) hb); (try clear hb); (try clear hb2); (try clear hk); (try clear hi)))
     go_meet
     case rel => exact ⟨_, ((t321 != t299)), (by first | rfl | (simp; done) | (simp [*]; done)), H', ⟨by first | omega | exact Nat.le_refl _⟩, ⟨by refine RU ?_; exact Kd.R_mono HO295.out (fun _ hk => ⟨hk.1.1.2.2.2.2.1, ⟨hk.1.1.2.2.2.2.2.1, ⟨hk.1.1.2.2.2.2.2.2.1, ⟨hk.1.1.2.2.2.2.2.2.2.1, ⟨hk.1.1.2.2.2.2.2.2.2.2, ⟨hk.1.2, hk.2⟩⟩⟩⟩⟩⟩)⟩, ⟨by refine RU ?_; exact Kd.R_mono HO298.out (fun _ hk => ⟨hk.1.1.2.2.2.2.1, ⟨hk.1.1.2.2.2.2.2.1, ⟨hk.1.1.2.2.2.2.2.2.1, ⟨hk.1.1.2.2.2.2.2.2.2.1, ⟨hk.1.1.2.2.2.2.2.2.2.2, ⟨hk.1.2, hk.2⟩⟩⟩⟩⟩⟩)⟩, ⟨by refine RU ?_; exact Kd.R_mono HO303.out (fun _ hk => ⟨hk.1.1.2.2.2.2.1, ⟨hk.1.1.2.2.2.2.2.1, ⟨hk.1.1.2.2.2.2.2.2.1, ⟨hk.1.1.2.2.2.2.2.2.2.1, ⟨hk.1.1.2.2.2.2.2.2.2.2, ⟨hk.1.2, hk.2⟩⟩⟩⟩⟩⟩)⟩, ⟨by refine RU ?_; exact Kd.R_mono HO306.out (fun _ hk => ⟨hk.1.1.2.2.2.2.1, ⟨hk.1.1.2.2.2.2.2.1, ⟨hk.1.1.2.2.2.2.2.2.1, ⟨hk.1.1.2.2.2.2.2.2.2.1, ⟨hk.1.1.2.2.2.2.2.2.2.2, ⟨hk.1.2, hk.2⟩⟩⟩⟩⟩⟩)⟩, ⟨by refine RU ?_; exact Kd.R_mono HO310.out (fun _ hk => ⟨hk.1.1.2.2.2.2.1, ⟨hk.1.1.2.2.2.2.2.1, ⟨hk.1.1.2.2.2.2.2.2.1, ⟨hk.1.1.2.2.2.2.2.2.2.1, ⟨hk.1.1.2.2.2.2.2.2.2.2, ⟨hk.1.2, hk.2⟩⟩⟩⟩⟩⟩)⟩, ⟨by refine RU ?_; exact Kd.R_mono HO313.out (fun _ hk => ⟨hk.1.1.2.2.2.2.1, ⟨hk.1.1.2.2.2.2.2.1, ⟨hk.1.1.2.2.2.2.2.2.1, ⟨hk.1.1.2.2.2.2.2.2.2.1, ⟨hk.1.1.2.2.2.2.2.2.2.2, ⟨hk.1.2, hk.2⟩⟩⟩⟩⟩⟩)⟩, ⟨by refine RU ?_; exact Kd.R_mono HO317.out (fun _ hk => ⟨hk.1.1.1.1.1.2, ⟨hk.1.1.1.1.2, ⟨hk.1.1.1.2, ⟨hk.1.1.2, ⟨hk.1.2, ⟨hk.2, hk.1.1.1.1.1.1.1.1.1.1⟩⟩⟩⟩⟩⟩)⟩, ⟨by refine RU ?_; exact Kd.R_mono HO320.out (fun _ hk => ⟨hk.1.1.1.1.1.2, ⟨hk.1.1.1.1.2, ⟨hk.1.1.1.2, ⟨hk.1.1.2, ⟨hk.1.2, ⟨hk.2, hk.1.1.1.1.1.1.1.1.1.1⟩⟩⟩⟩⟩⟩)⟩, ⟨by refine kU ?_; exact BK277.out⟩, ⟨by refine kU ?_; exact BK278.out⟩, ⟨by refine kU ?_; exact BK300.out⟩, ⟨by refine kU ?_; exact BK307.out⟩, ⟨by refine kU ?_; exact BK314.out⟩, ⟨by refine kU ?_; exact BK322.out⟩, ⟨by exact bS6 HB.out GE277.out GE278.out GE300.out GE307.out GE314.out GE322.out⟩⟩
    ·
     replace c82 := Bool.eq_false_iff.mpr c82
     subst c82
     have H1 : (laws_FnExactPick.j0 k t299 t321 true l0_0 l0_1 l1_0 l1_1 t293 t296 t301 t304 t308 t311 t315 t318) = some r := by rw [if_neg (show ¬ (false = true) by decide)] at H; exact H
     clear H
     have H := H1
     clear H1
     have hz_ : ∀ kz, laws_FnExactPick.j0 kz t299 t321 true l0_0 l0_1 l1_0 l1_1 t293 t296 t301 t304 t308 t311 t315 t318 = some r → r = false := by intro kz hz; cases kz with | zero => exact absurd hz (by simp [laws_FnExactPick.j0]) | succ kz => simp only [laws_FnExactPick.j0] at hz; first | (rw [if_pos rfl] at hz; exact (Option.some.inj hz).symm) | (simp at hz; exact hz.symm) | (simp at hz; exact hz)
     exact absurd (HT.out.symm.trans (hz_ _ H)) (by decide)
   case rest =>
    clear HC25
    try clear c1
    try clear p2
    try clear c4
    try clear c5
    try clear c6
    try clear c7
    try clear c8
    try clear c9
    try clear c10
    try clear c14
    try clear c15
    try clear c47
    try clear c52
    try clear c53
    try clear c54
    try clear c57
    try clear c62
    try clear c63
    try clear c64
    try clear c65
    try clear c74
    try clear c75
    try clear c76
    try clear c77
    try clear c78
    try clear c82
    try clear c83
    try clear c84
    try clear c85
    try clear c86
    try clear c87
    try clear c89
    try clear c90
    try clear c91
    try clear c92
    try clear hcz48_0
    try clear hcz48_1
    try clear hcz55_0
    try clear hcz55_1
    try clear hcz58_0
    try clear hcz58_1
    try clear hcz66_0
    try clear hcz66_1
    try clear hcz69_0
    try clear hcz69_1
    try clear hcz70_0
    try clear hcz70_1
    try clear hcz79_0
    try clear hcz79_1
    try clear hcz88_0
    try clear hcz88_1
    try clear hcz93_0
    try clear hcz93_1
    try clear hfz48_0
    try clear hfz48_1
    try clear hfz55_0
    try clear hfz55_1
    try clear hfz58_0
    try clear hfz58_1
    try clear hfz66_0
    try clear hfz66_1
    try clear hfz69_0
    try clear hfz69_1
    try clear hfz70_0
    try clear hfz70_1
    try clear hfz79_0
    try clear hfz79_1
    try clear hfz88_0
    try clear hfz88_1
    try clear hfz93_0
    try clear hfz93_1
    obtain ⟨kq, x53_24, rfl, HA, HJ24, HO_301000, HO_301001, HO_308000, HO_308001, HO_315000, HO_315001, HO_323000, HO_323001, BK277, BK278, BK300, BK307, BK314, BK322, HB⟩ := hcut
    cases kq with
    | zero => exact absurd HA.out (by simp [laws_FnExactPick.j0])
    | succ kj24 =>
     have H := HA.out
     clear HA
     simp only [laws_FnExactPick.j0] at H
     by_cases c95 : x53_24 = true
     ·
      subst c95
      have H1 : (some false) = some r := by rw [if_pos rfl] at H; exact H
      clear H
      have H := H1
      clear H1
      obtain rfl := Option.some.inj H
      exact absurd HT.out (by decide)
     ·
      replace c95 := Bool.eq_false_iff.mpr c95
      subst c95
      have H1 : ((laws_toArray.f kj24 l0_0 l0_1).bind fun bt324 => ((laws_eqArray.f kj24 t301 t304 bt324.1 bt324.2).bind fun t330 => (if t330 = true then ((laws_toArray.f kj24 l1_0 l1_1).bind fun bt331 => ((laws_eqArray.f kj24 t308 t311 bt331.1 bt331.2).bind fun t337 => (if t337 = true then ((laws_markArray.f kj24 t301 t304 1).bind fun bt338 => ((laws_markArray.f kj24 t308 t311 bt338.1).bind fun bt341 => (if bt341.1 < 0 then (laws_FnExactPick.j1 kj24 t299 true l0_0 l0_1 l1_0 l1_1 t293 t296 t315 t318) else ((laws_eqArray.f kj24 t315 t318 t293 t296).bind fun t344 => (if t344 = true then (laws_FnExactPick.j1 kj24 t299 (t321 != t299) l0_0 l0_1 l1_0 l1_1 t293 t296 t315 t318) else (laws_FnExactPick.j1 kj24 t299 true l0_0 l0_1 l1_0 l1_1 t293 t296 t315 t318)))))) else (some false)))) else (some false)))) = some r := by rw [if_neg (show ¬ (false = true) by decide)] at H; exact H
      clear H
      have H := H1
      clear H1
      replace H := Option.bind_eq_some_iff.mp H
      obtain ⟨⟨t324, t327⟩, A960, H⟩ := H
      replace H : ((laws_eqArray.f kj24 t301 t304 t324 t327).bind fun t330 => (if t330 = true then ((laws_toArray.f kj24 l1_0 l1_1).bind fun bt331 => ((laws_eqArray.f kj24 t308 t311 bt331.1 bt331.2).bind fun t337 => (if t337 = true then ((laws_markArray.f kj24 t301 t304 1).bind fun bt338 => ((laws_markArray.f kj24 t308 t311 bt338.1).bind fun bt341 => (if bt341.1 < 0 then (laws_FnExactPick.j1 kj24 t299 true l0_0 l0_1 l1_0 l1_1 t293 t296 t315 t318) else ((laws_eqArray.f kj24 t315 t318 t293 t296).bind fun t344 => (if t344 = true then (laws_FnExactPick.j1 kj24 t299 (t321 != t299) l0_0 l0_1 l1_0 l1_1 t293 t296 t315 t318) else (laws_FnExactPick.j1 kj24 t299 true l0_0 l0_1 l1_0 l1_1 t293 t296 t315 t318)))))) else (some false)))) else (some false))) = some r := H
      have A96 := Aside0.mk A960
      clear A960
      replace H := Option.bind_eq_some_iff.mp H
      obtain ⟨t330, A970, H⟩ := H
      replace H : (if t330 = true then ((laws_toArray.f kj24 l1_0 l1_1).bind fun bt331 => ((laws_eqArray.f kj24 t308 t311 bt331.1 bt331.2).bind fun t337 => (if t337 = true then ((laws_markArray.f kj24 t301 t304 1).bind fun bt338 => ((laws_markArray.f kj24 t308 t311 bt338.1).bind fun bt341 => (if bt341.1 < 0 then (laws_FnExactPick.j1 kj24 t299 true l0_0 l0_1 l1_0 l1_1 t293 t296 t315 t318) else ((laws_eqArray.f kj24 t315 t318 t293 t296).bind fun t344 => (if t344 = true then (laws_FnExactPick.j1 kj24 t299 (t321 != t299) l0_0 l0_1 l1_0 l1_1 t293 t296 t315 t318) else (laws_FnExactPick.j1 kj24 t299 true l0_0 l0_1 l1_0 l1_1 t293 t296 t315 t318)))))) else (some false)))) else (some false)) = some r := H
      have A97 := Aside0.mk A970
      clear A970
      by_cases c98 : t330 = true
      ·
       subst c98
       have H1 : ((laws_toArray.f kj24 l1_0 l1_1).bind fun bt331 => ((laws_eqArray.f kj24 t308 t311 bt331.1 bt331.2).bind fun t337 => (if t337 = true then ((laws_markArray.f kj24 t301 t304 1).bind fun bt338 => ((laws_markArray.f kj24 t308 t311 bt338.1).bind fun bt341 => (if bt341.1 < 0 then (laws_FnExactPick.j1 kj24 t299 true l0_0 l0_1 l1_0 l1_1 t293 t296 t315 t318) else ((laws_eqArray.f kj24 t315 t318 t293 t296).bind fun t344 => (if t344 = true then (laws_FnExactPick.j1 kj24 t299 (t321 != t299) l0_0 l0_1 l1_0 l1_1 t293 t296 t315 t318) else (laws_FnExactPick.j1 kj24 t299 true l0_0 l0_1 l1_0 l1_1 t293 t296 t315 t318)))))) else (some false)))) = some r := by rw [if_pos rfl] at H; exact H
       clear H
       have H := H1
       clear H1
       replace H := Option.bind_eq_some_iff.mp H
       obtain ⟨⟨t331, t334⟩, A990, H⟩ := H
       replace H : ((laws_eqArray.f kj24 t308 t311 t331 t334).bind fun t337 => (if t337 = true then ((laws_markArray.f kj24 t301 t304 1).bind fun bt338 => ((laws_markArray.f kj24 t308 t311 bt338.1).bind fun bt341 => (if bt341.1 < 0 then (laws_FnExactPick.j1 kj24 t299 true l0_0 l0_1 l1_0 l1_1 t293 t296 t315 t318) else ((laws_eqArray.f kj24 t315 t318 t293 t296).bind fun t344 => (if t344 = true then (laws_FnExactPick.j1 kj24 t299 (t321 != t299) l0_0 l0_1 l1_0 l1_1 t293 t296 t315 t318) else (laws_FnExactPick.j1 kj24 t299 true l0_0 l0_1 l1_0 l1_1 t293 t296 t315 t318)))))) else (some false))) = some r := H
       have A99 := Aside0.mk A990
       clear A990
       replace H := Option.bind_eq_some_iff.mp H
       obtain ⟨t337, A1000, H⟩ := H
       replace H : (if t337 = true then ((laws_markArray.f kj24 t301 t304 1).bind fun bt338 => ((laws_markArray.f kj24 t308 t311 bt338.1).bind fun bt341 => (if bt341.1 < 0 then (laws_FnExactPick.j1 kj24 t299 true l0_0 l0_1 l1_0 l1_1 t293 t296 t315 t318) else ((laws_eqArray.f kj24 t315 t318 t293 t296).bind fun t344 => (if t344 = true then (laws_FnExactPick.j1 kj24 t299 (t321 != t299) l0_0 l0_1 l1_0 l1_1 t293 t296 t315 t318) else (laws_FnExactPick.j1 kj24 t299 true l0_0 l0_1 l1_0 l1_1 t293 t296 t315 t318)))))) else (some false)) = some r := H
       have A100 := Aside0.mk A1000
       clear A1000
       by_cases c101 : t337 = true
       ·
        subst c101
        have H1 : ((laws_markArray.f kj24 t301 t304 1).bind fun bt338 => ((laws_markArray.f kj24 t308 t311 bt338.1).bind fun bt341 => (if bt341.1 < 0 then (laws_FnExactPick.j1 kj24 t299 true l0_0 l0_1 l1_0 l1_1 t293 t296 t315 t318) else ((laws_eqArray.f kj24 t315 t318 t293 t296).bind fun t344 => (if t344 = true then (laws_FnExactPick.j1 kj24 t299 (t321 != t299) l0_0 l0_1 l1_0 l1_1 t293 t296 t315 t318) else (laws_FnExactPick.j1 kj24 t299 true l0_0 l0_1 l1_0 l1_1 t293 t296 t315 t318)))))) = some r := by rw [if_pos rfl] at H; exact H
        clear H
        have H := H1
        clear H1
        replace H := Option.bind_eq_some_iff.mp H
        obtain ⟨⟨t338, t339, t340⟩, A1020, H⟩ := H
        replace H : ((laws_markArray.f kj24 t308 t311 t338).bind fun bt341 => (if bt341.1 < 0 then (laws_FnExactPick.j1 kj24 t299 true l0_0 l0_1 l1_0 l1_1 t293 t296 t315 t318) else ((laws_eqArray.f kj24 t315 t318 t293 t296).bind fun t344 => (if t344 = true then (laws_FnExactPick.j1 kj24 t299 (t321 != t299) l0_0 l0_1 l1_0 l1_1 t293 t296 t315 t318) else (laws_FnExactPick.j1 kj24 t299 true l0_0 l0_1 l1_0 l1_1 t293 t296 t315 t318))))) = some r := H
        have A102 := Aside0.mk A1020
        clear A1020
        replace H := Option.bind_eq_some_iff.mp H
        obtain ⟨⟨t341, t342, t343⟩, A1030, H⟩ := H
        replace H : (if t341 < 0 then (laws_FnExactPick.j1 kj24 t299 true l0_0 l0_1 l1_0 l1_1 t293 t296 t315 t318) else ((laws_eqArray.f kj24 t315 t318 t293 t296).bind fun t344 => (if t344 = true then (laws_FnExactPick.j1 kj24 t299 (t321 != t299) l0_0 l0_1 l1_0 l1_1 t293 t296 t315 t318) else (laws_FnExactPick.j1 kj24 t299 true l0_0 l0_1 l1_0 l1_1 t293 t296 t315 t318)))) = some r := H
        have A103 := Aside0.mk A1030
        clear A1030
        have HC104 := Aside0.mk H
        clear H
        try go_wp2
        replace HO_301000 := Aside0.mk (Kd.R_drew HO_301000.out)
        replace HO_301001 := Aside0.mk (Kd.R_drew HO_301001.out)
        replace HO_308000 := Aside0.mk (Kd.R_drew HO_308000.out)
        replace HO_308001 := Aside0.mk (Kd.R_drew HO_308001.out)
        replace HO_315000 := Aside0.mk (Kd.R_drew HO_315000.out)
        replace HO_315001 := Aside0.mk (Kd.R_drew HO_315001.out)
        replace HO_323000 := Aside0.mk (Kd.R_drew HO_323000.out)
        replace HO_323001 := Aside0.mk (Kd.R_drew HO_323001.out)
        replace BK277 := Aside0.mk (blk_drew BK277.out)
        replace BK278 := Aside0.mk (blk_drew BK278.out)
        replace BK300 := Aside0.mk (blk_drew BK300.out)
        replace BK307 := Aside0.mk (blk_drew BK307.out)
        replace BK314 := Aside0.mk (blk_drew BK314.out)
        replace BK322 := Aside0.mk (blk_drew BK322.out)
        replace HB := Aside0.mk (below_drew1 HB.out)
        refine start_ (n := 5) (S := fun w' => w'.cell? ⟨gb307, 0, none⟩ = some (.slice Ao51 t301.length co51) ∧ w'.cell? ⟨gb307, 1, none⟩ = some (.slice Ao56 t304.length co56) ∧ w'.cell? ⟨gb277, 0, none⟩ = some (.slice A0_0 l0_0.length c0_0) ∧ w'.cell? ⟨gb277, 1, none⟩ = some (.slice A0_1 l0_1.length c0_1)) (ds := []) #[false, false, false, false, false] (by kernel_rfl) rfl rfl ⟨(blk_cell BK307.out 0).trans rfl, (blk_cell BK307.out 1).trans rfl, (blk_cell BK277.out 0).trans rfl, (blk_cell BK277.out 1).trans rfl⟩ (fun hHeld => ?_)
        generalize wc.drew = w105 at HO_301000 HO_301001 HO_308000 HO_308001 HO_315000 HO_315001 HO_323000 HO_323001 BK277 BK278 BK300 BK307 BK314 BK322 HB hHeld ⊢
        refine take_ (i := 0) (N := some 54) (v := ?_) (a' := ?_) #[true, false, false, false, false] rfl rfl (by kernel_rfl) (fun _ _ _ h => h) (Or.inl ⟨by rfl, ?_⟩) hHeld ?_ ?_
        rotate_left
        ·
         rintro w' ⟨s0, s1, s2, s3⟩
         go_simp
         with_reducible rfl
        rotate_left
        ·
         simp only [Act.put, List.setIfInBounds_toArray, List.set_cons_zero, List.set_cons_succ, i64_w, i32_w]
         rfl
        refine take_ (i := 1) (N := some 55) (v := ?_) (a' := ?_) #[true, true, false, false, false] rfl rfl (by kernel_rfl) (fun _ _ _ h => h) (Or.inl ⟨by rfl, ?_⟩) hHeld ?_ ?_
        rotate_left
        ·
         rintro w' ⟨s0, s1, s2, s3⟩
         go_simp
         with_reducible rfl
        rotate_left
        ·
         simp only [Act.put, List.setIfInBounds_toArray, List.set_cons_zero, List.set_cons_succ, i64_w, i32_w]
         rfl
        refine one_ (i := 2) (N := some 56) #[true, true, true, false, false] rfl rfl (by kernel_rfl) (by decide) (fun K hK => ?_)
        refine goes_ Try.func7 (by kernel_rfl) rfl #[.agg #[.slice A0_0 l0_0.length c0_0, .slice A0_1 l0_1.length c0_1]] (by rfl) rfl rfl lU ?_
        with_reducible refine (laws_toArray.calls kj24 _ _ l0_0 _ _ l0_1 t324 t327 _ ?side1 ?side2 ?side3 ?side4 A96.out).mono ?_
        (case side1 => exact cU (Kd.C_below HR0_0.out HB.out))
        (case side2 => exact HC0_0.out)
        (case side3 => exact cU (Kd.C_below HR0_1.out HB.out))
        (case side4 => exact HC0_1.out)
        rintro e w106 ⟨v325, v328, rfl, ho0, ho1, hb⟩
        refine ⟨_, rfl, ?_⟩
        have HO326 := Aside0.mk (Kd.R_lower (Kd.R_new' (Kd.R_new' (Kd.R_new' (Kd.R_new' (Kd.R_new' (Kd.R_new' (Kd.R_new' (Kd.R_new' ho0 (Kd.R_lt (RU HO_301000.out))) (Kd.R_lt (RU HO_301001.out))) (Kd.R_lt (RU HO_308000.out))) (Kd.R_lt (RU HO_308001.out))) (Kd.R_lt (RU HO_315000.out))) (Kd.R_lt (RU HO_315001.out))) (Kd.R_lt (RU HO_323000.out))) (Kd.R_lt (RU HO_323001.out))) (below_size (bS6 HB.out GE277.out GE278.out GE300.out GE307.out GE314.out GE322.out)))
        have HO329 := Aside0.mk (Kd.R_lower (Kd.R_new' (Kd.R_new' (Kd.R_new' (Kd.R_new' (Kd.R_new' (Kd.R_new' (Kd.R_new' (Kd.R_new' ho1 (Kd.R_lt (RU HO_301000.out))) (Kd.R_lt (RU HO_301001.out))) (Kd.R_lt (RU HO_308000.out))) (Kd.R_lt (RU HO_308001.out))) (Kd.R_lt (RU HO_315000.out))) (Kd.R_lt (RU HO_315001.out))) (Kd.R_lt (RU HO_323000.out))) (Kd.R_lt (RU HO_323001.out))) (below_size (bS6 HB.out GE277.out GE278.out GE300.out GE307.out GE314.out GE322.out)))
        replace HO_301000 := Aside0.mk (Kd.R_mono (Kd.R_told (Kd.R_told (Kd.R_old (RU HO_301000.out) hb) (Kd.R_base ho0)) (Kd.R_base ho1)) (fun _ h_ => h_.1))
        replace HO_301001 := Aside0.mk (Kd.R_mono (Kd.R_told (Kd.R_told (Kd.R_old (RU HO_301001.out) hb) (Kd.R_base ho0)) (Kd.R_base ho1)) (fun _ h_ => h_.1))
        replace HO_308000 := Aside0.mk (Kd.R_mono (Kd.R_told (Kd.R_told (Kd.R_old (RU HO_308000.out) hb) (Kd.R_base ho0)) (Kd.R_base ho1)) (fun _ h_ => h_.1))
        replace HO_308001 := Aside0.mk (Kd.R_mono (Kd.R_told (Kd.R_told (Kd.R_old (RU HO_308001.out) hb) (Kd.R_base ho0)) (Kd.R_base ho1)) (fun _ h_ => h_.1))
        replace HO_315000 := Aside0.mk (Kd.R_mono (Kd.R_told (Kd.R_told (Kd.R_old (RU HO_315000.out) hb) (Kd.R_base ho0)) (Kd.R_base ho1)) (fun _ h_ => h_.1))
        replace HO_315001 := Aside0.mk (Kd.R_mono (Kd.R_told (Kd.R_told (Kd.R_old (RU HO_315001.out) hb) (Kd.R_base ho0)) (Kd.R_base ho1)) (fun _ h_ => h_.1))
        replace HO_323000 := Aside0.mk (Kd.R_mono (Kd.R_told (Kd.R_told (Kd.R_old (RU HO_323000.out) hb) (Kd.R_base ho0)) (Kd.R_base ho1)) (fun _ h_ => h_.1))
        replace HO_323001 := Aside0.mk (Kd.R_mono (Kd.R_told (Kd.R_told (Kd.R_old (RU HO_323001.out) hb) (Kd.R_base ho0)) (Kd.R_base ho1)) (fun _ h_ => h_.1))
        replace BK277 := Aside0.mk (kB BK277.out hb)
        replace BK278 := Aside0.mk (kB BK278.out hb)
        replace BK300 := Aside0.mk (kB BK300.out hb)
        replace BK307 := Aside0.mk (kB BK307.out hb)
        replace BK314 := Aside0.mk (kB BK314.out hb)
        replace BK322 := Aside0.mk (kB BK322.out hb)
        replace HB := Aside0.mk (below_step (bS6 HB.out GE277.out GE278.out GE300.out GE307.out GE314.out GE322.out) hb)
        (try clear hb)
        (try clear hb2)
        (try clear hk)
        (try clear hi)
        (try clear ho0)
        (try clear ho1)
        obtain ⟨Ao107, co107, eo107⟩ := Kd.R_slice HO326.out
        (first | subst eo107 | (injection eo107 with f1_ f2_ f3_; have f4_ := f1_.symm; have f5_ := f3_.symm; clear f1_ f2_ f3_; subst f4_; subst f5_))
        obtain ⟨Ao108, co108, eo108⟩ := Kd.R_slice HO329.out
        (first | subst eo108 | (injection eo108 with f1_ f2_ f3_; have f4_ := f1_.symm; have f5_ := f3_.symm; clear f1_ f2_ f3_; subst f4_; subst f5_))
        refine hK.out _ _ ⟨(blk_cell BK307.out 0).trans rfl, (blk_cell BK307.out 1).trans rfl, (blk_cell BK277.out 0).trans rfl, (blk_cell BK277.out 1).trans rfl⟩ (fun hHeld => ?_)
        clear hK K
        refine norm_ (a' := ?_) ?_ ?_
        rotate_left
        ·
         show Act.put _ (some 56) _ = _
         simp only [Act.put, List.setIfInBounds_toArray, List.set_cons_zero, List.set_cons_succ, i64_w, i32_w]
         rfl
        refine one_ (i := 3) (N := some 57) #[true, true, true, true, false] rfl rfl (by kernel_rfl) (by decide) (fun K hK => ?_)
        refine goes_ Try.func10 (by kernel_rfl) rfl #[.agg #[.slice Ao51 t301.length co51, .slice Ao56 t304.length co56], .agg #[.slice Ao107 t324.length co107, .slice Ao108 t327.length co108]] (by rfl) rfl rfl lU ?_
        with_reducible refine (laws_eqArray.calls kj24 _ _ t301 _ _ t304 _ _ t324 _ _ t327 true _ ?side1 ?side2 ?side3 ?side4 ?side5 ?side6 ?side7 ?side8 A97.out).mono ?_
        (case side1 => exact cU (Kd.R_reads' HO_308000.out).2.2)
        (case side2 => exact (Kd.R_reads' HO_308000.out).2.1)
        (case side3 => exact cU (Kd.R_reads' HO_308001.out).2.2)
        (case side4 => exact (Kd.R_reads' HO_308001.out).2.1)
        (case side5 => exact cU (Kd.R_reads' HO326.out).2.2)
        (case side6 => exact (Kd.R_reads' HO326.out).2.1)
        (case side7 => exact cU (Kd.R_reads' HO329.out).2.2)
        (case side8 => exact (Kd.R_reads' HO329.out).2.1)
        rintro e w109 ⟨rfl, hb⟩
        refine ⟨_, rfl, ?_⟩
        replace HO_301000 := Aside0.mk (Kd.R_below (RU HO_301000.out) hb)
        replace HO_301001 := Aside0.mk (Kd.R_below (RU HO_301001.out) hb)
        replace HO_308000 := Aside0.mk (Kd.R_below (RU HO_308000.out) hb)
        replace HO_308001 := Aside0.mk (Kd.R_below (RU HO_308001.out) hb)
        replace HO_315000 := Aside0.mk (Kd.R_below (RU HO_315000.out) hb)
        replace HO_315001 := Aside0.mk (Kd.R_below (RU HO_315001.out) hb)
        replace HO_323000 := Aside0.mk (Kd.R_below (RU HO_323000.out) hb)
        replace HO_323001 := Aside0.mk (Kd.R_below (RU HO_323001.out) hb)
        replace HO326 := Aside0.mk (Kd.R_below (RU HO326.out) hb)
        replace HO329 := Aside0.mk (Kd.R_below (RU HO329.out) hb)
        replace BK277 := Aside0.mk (kB BK277.out hb)
        replace BK278 := Aside0.mk (kB BK278.out hb)
        replace BK300 := Aside0.mk (kB BK300.out hb)
        replace BK307 := Aside0.mk (kB BK307.out hb)
        replace BK314 := Aside0.mk (kB BK314.out hb)
        replace BK322 := Aside0.mk (kB BK322.out hb)
        replace HB := Aside0.mk (below_step (bS6 HB.out GE277.out GE278.out GE300.out GE307.out GE314.out GE322.out) hb)
        (try clear hb)
        (try clear hb2)
        (try clear hk)
        (try clear hi)
        refine hK.out _ _ ⟨(blk_cell BK307.out 0).trans rfl, (blk_cell BK307.out 1).trans rfl, (blk_cell BK277.out 0).trans rfl, (blk_cell BK277.out 1).trans rfl⟩ (fun hHeld => ?_)
        clear hK K
        refine norm_ (a' := ?_) ?_ ?_
        rotate_left
        ·
         show Act.put _ (some 57) _ = _
         simp only [Act.put, List.setIfInBounds_toArray, List.set_cons_zero, List.set_cons_succ, i64_w, i32_w]
         rfl
        refine pure_ (i := 4) (N := some 58) (v := ?_) (a' := ?_) #[true, true, true, true, true] rfl rfl (by kernel_rfl) (fun _ _ _ h => h) (Or.inl ⟨by rfl, ?_⟩) ?_ ?_
        rotate_left
        ·
         intro w'
         go_simp
         with_reducible rfl
        rotate_left
        ·
         simp only [Act.put, List.setIfInBounds_toArray, List.set_cons_zero, List.set_cons_succ, i64_w, i32_w]
         rfl
        refine done_ (by kernel_rfl) ?_
        try go_wp2
        replace HO_301000 := Aside0.mk (Kd.R_drew HO_301000.out)
        replace HO_301001 := Aside0.mk (Kd.R_drew HO_301001.out)
        replace HO_308000 := Aside0.mk (Kd.R_drew HO_308000.out)
        replace HO_308001 := Aside0.mk (Kd.R_drew HO_308001.out)
        replace HO_315000 := Aside0.mk (Kd.R_drew HO_315000.out)
        replace HO_315001 := Aside0.mk (Kd.R_drew HO_315001.out)
        replace HO_323000 := Aside0.mk (Kd.R_drew HO_323000.out)
        replace HO_323001 := Aside0.mk (Kd.R_drew HO_323001.out)
        replace HO326 := Aside0.mk (Kd.R_drew HO326.out)
        replace HO329 := Aside0.mk (Kd.R_drew HO329.out)
        replace BK277 := Aside0.mk (blk_drew BK277.out)
        replace BK278 := Aside0.mk (blk_drew BK278.out)
        replace BK300 := Aside0.mk (blk_drew BK300.out)
        replace BK307 := Aside0.mk (blk_drew BK307.out)
        replace BK314 := Aside0.mk (blk_drew BK314.out)
        replace BK322 := Aside0.mk (blk_drew BK322.out)
        replace HB := Aside0.mk (below_drew1 HB.out)
        refine start_ (n := 5) (S := fun w' => w'.cell? ⟨gb314, 0, none⟩ = some (.slice Ao61 t308.length co61) ∧ w'.cell? ⟨gb314, 1, none⟩ = some (.slice Ao67 t311.length co67) ∧ w'.cell? ⟨gb278, 0, none⟩ = some (.slice A1_0 l1_0.length c1_0) ∧ w'.cell? ⟨gb278, 1, none⟩ = some (.slice A1_1 l1_1.length c1_1)) (ds := []) #[false, false, false, false, false] (by kernel_rfl) rfl rfl ⟨(blk_cell BK314.out 0).trans rfl, (blk_cell BK314.out 1).trans rfl, (blk_cell BK278.out 0).trans rfl, (blk_cell BK278.out 1).trans rfl⟩ (fun hHeld => ?_)
        generalize w109.drew = w110 at HO_301000 HO_301001 HO_308000 HO_308001 HO_315000 HO_315001 HO_323000 HO_323001 HO326 HO329 BK277 BK278 BK300 BK307 BK314 BK322 HB hHeld ⊢
        refine take_ (i := 0) (N := some 59) (v := ?_) (a' := ?_) #[true, false, false, false, false] rfl rfl (by kernel_rfl) (fun _ _ _ h => h) (Or.inl ⟨by rfl, ?_⟩) hHeld ?_ ?_
        rotate_left
        ·
         rintro w' ⟨s0, s1, s2, s3⟩
         go_simp
         with_reducible rfl
        rotate_left
        ·
         simp only [Act.put, List.setIfInBounds_toArray, List.set_cons_zero, List.set_cons_succ, i64_w, i32_w]
         rfl
        refine take_ (i := 1) (N := some 60) (v := ?_) (a' := ?_) #[true, true, false, false, false] rfl rfl (by kernel_rfl) (fun _ _ _ h => h) (Or.inl ⟨by rfl, ?_⟩) hHeld ?_ ?_
        rotate_left
        ·
         rintro w' ⟨s0, s1, s2, s3⟩
         go_simp
         with_reducible rfl
        rotate_left
        ·
         simp only [Act.put, List.setIfInBounds_toArray, List.set_cons_zero, List.set_cons_succ, i64_w, i32_w]
         rfl
        refine one_ (i := 2) (N := some 61) #[true, true, true, false, false] rfl rfl (by kernel_rfl) (by decide) (fun K hK => ?_)
        refine goes_ Try.func7 (by kernel_rfl) rfl #[.agg #[.slice A1_0 l1_0.length c1_0, .slice A1_1 l1_1.length c1_1]] (by rfl) rfl rfl lU ?_
        with_reducible refine (laws_toArray.calls kj24 _ _ l1_0 _ _ l1_1 t331 t334 _ ?side1 ?side2 ?side3 ?side4 A99.out).mono ?_
        (case side1 => exact cU (Kd.C_below HR1_0.out HB.out))
        (case side2 => exact HC1_0.out)
        (case side3 => exact cU (Kd.C_below HR1_1.out HB.out))
        (case side4 => exact HC1_1.out)
        rintro e w111 ⟨v332, v335, rfl, ho0, ho1, hb⟩
        refine ⟨_, rfl, ?_⟩
        have HO333 := Aside0.mk (Kd.R_lower (Kd.R_new' (Kd.R_new' (Kd.R_new' (Kd.R_new' (Kd.R_new' (Kd.R_new' (Kd.R_new' (Kd.R_new' (Kd.R_new' (Kd.R_new' ho0 (Kd.R_lt (RU HO_301000.out))) (Kd.R_lt (RU HO_301001.out))) (Kd.R_lt (RU HO_308000.out))) (Kd.R_lt (RU HO_308001.out))) (Kd.R_lt (RU HO_315000.out))) (Kd.R_lt (RU HO_315001.out))) (Kd.R_lt (RU HO_323000.out))) (Kd.R_lt (RU HO_323001.out))) (Kd.R_lt (RU HO326.out))) (Kd.R_lt (RU HO329.out))) (below_size (bS6 HB.out GE277.out GE278.out GE300.out GE307.out GE314.out GE322.out)))
        have HO336 := Aside0.mk (Kd.R_lower (Kd.R_new' (Kd.R_new' (Kd.R_new' (Kd.R_new' (Kd.R_new' (Kd.R_new' (Kd.R_new' (Kd.R_new' (Kd.R_new' (Kd.R_new' ho1 (Kd.R_lt (RU HO_301000.out))) (Kd.R_lt (RU HO_301001.out))) (Kd.R_lt (RU HO_308000.out))) (Kd.R_lt (RU HO_308001.out))) (Kd.R_lt (RU HO_315000.out))) (Kd.R_lt (RU HO_315001.out))) (Kd.R_lt (RU HO_323000.out))) (Kd.R_lt (RU HO_323001.out))) (Kd.R_lt (RU HO326.out))) (Kd.R_lt (RU HO329.out))) (below_size (bS6 HB.out GE277.out GE278.out GE300.out GE307.out GE314.out GE322.out)))
        replace HO_301000 := Aside0.mk (Kd.R_mono (Kd.R_told (Kd.R_told (Kd.R_old (RU HO_301000.out) hb) (Kd.R_base ho0)) (Kd.R_base ho1)) (fun _ h_ => h_.1))
        replace HO_301001 := Aside0.mk (Kd.R_mono (Kd.R_told (Kd.R_told (Kd.R_old (RU HO_301001.out) hb) (Kd.R_base ho0)) (Kd.R_base ho1)) (fun _ h_ => h_.1))
        replace HO_308000 := Aside0.mk (Kd.R_mono (Kd.R_told (Kd.R_told (Kd.R_old (RU HO_308000.out) hb) (Kd.R_base ho0)) (Kd.R_base ho1)) (fun _ h_ => h_.1))
        replace HO_308001 := Aside0.mk (Kd.R_mono (Kd.R_told (Kd.R_told (Kd.R_old (RU HO_308001.out) hb) (Kd.R_base ho0)) (Kd.R_base ho1)) (fun _ h_ => h_.1))
        replace HO_315000 := Aside0.mk (Kd.R_mono (Kd.R_told (Kd.R_told (Kd.R_old (RU HO_315000.out) hb) (Kd.R_base ho0)) (Kd.R_base ho1)) (fun _ h_ => h_.1))
        replace HO_315001 := Aside0.mk (Kd.R_mono (Kd.R_told (Kd.R_told (Kd.R_old (RU HO_315001.out) hb) (Kd.R_base ho0)) (Kd.R_base ho1)) (fun _ h_ => h_.1))
        replace HO_323000 := Aside0.mk (Kd.R_mono (Kd.R_told (Kd.R_told (Kd.R_old (RU HO_323000.out) hb) (Kd.R_base ho0)) (Kd.R_base ho1)) (fun _ h_ => h_.1))
        replace HO_323001 := Aside0.mk (Kd.R_mono (Kd.R_told (Kd.R_told (Kd.R_old (RU HO_323001.out) hb) (Kd.R_base ho0)) (Kd.R_base ho1)) (fun _ h_ => h_.1))
        replace HO326 := Aside0.mk (Kd.R_mono (Kd.R_told (Kd.R_told (Kd.R_old (RU HO326.out) hb) (Kd.R_base ho0)) (Kd.R_base ho1)) (fun _ h_ => h_.1))
        replace HO329 := Aside0.mk (Kd.R_mono (Kd.R_told (Kd.R_told (Kd.R_old (RU HO329.out) hb) (Kd.R_base ho0)) (Kd.R_base ho1)) (fun _ h_ => h_.1))
        replace BK277 := Aside0.mk (kB BK277.out hb)
        replace BK278 := Aside0.mk (kB BK278.out hb)
        replace BK300 := Aside0.mk (kB BK300.out hb)
        replace BK307 := Aside0.mk (kB BK307.out hb)
        replace BK314 := Aside0.mk (kB BK314.out hb)
        replace BK322 := Aside0.mk (kB BK322.out hb)
        replace HB := Aside0.mk (below_step (bS6 HB.out GE277.out GE278.out GE300.out GE307.out GE314.out GE322.out) hb)
        (try clear hb)
        (try clear hb2)
        (try clear hk)
        (try clear hi)
        (try clear ho0)
        (try clear ho1)
        obtain ⟨Ao112, co112, eo112⟩ := Kd.R_slice HO333.out
        (first | subst eo112 | (injection eo112 with f1_ f2_ f3_; have f4_ := f1_.symm; have f5_ := f3_.symm; clear f1_ f2_ f3_; subst f4_; subst f5_))
        obtain ⟨Ao113, co113, eo113⟩ := Kd.R_slice HO336.out
        (first | subst eo113 | (injection eo113 with f1_ f2_ f3_; have f4_ := f1_.symm; have f5_ := f3_.symm; clear f1_ f2_ f3_; subst f4_; subst f5_))
        refine hK.out _ _ ⟨(blk_cell BK314.out 0).trans rfl, (blk_cell BK314.out 1).trans rfl, (blk_cell BK278.out 0).trans rfl, (blk_cell BK278.out 1).trans rfl⟩ (fun hHeld => ?_)
        clear hK K
        refine norm_ (a' := ?_) ?_ ?_
        rotate_left
        ·
         show Act.put _ (some 61) _ = _
         simp only [Act.put, List.setIfInBounds_toArray, List.set_cons_zero, List.set_cons_succ, i64_w, i32_w]
         rfl
        refine one_ (i := 3) (N := some 62) #[true, true, true, true, false] rfl rfl (by kernel_rfl) (by decide) (fun K hK => ?_)
        refine goes_ Try.func10 (by kernel_rfl) rfl #[.agg #[.slice Ao61 t308.length co61, .slice Ao67 t311.length co67], .agg #[.slice Ao112 t331.length co112, .slice Ao113 t334.length co113]] (by rfl) rfl rfl lU ?_
        with_reducible refine (laws_eqArray.calls kj24 _ _ t308 _ _ t311 _ _ t331 _ _ t334 true _ ?side1 ?side2 ?side3 ?side4 ?side5 ?side6 ?side7 ?side8 A100.out).mono ?_
        (case side1 => exact cU (Kd.R_reads' HO_315000.out).2.2)
        (case side2 => exact (Kd.R_reads' HO_315000.out).2.1)
        (case side3 => exact cU (Kd.R_reads' HO_315001.out).2.2)
        (case side4 => exact (Kd.R_reads' HO_315001.out).2.1)
        (case side5 => exact cU (Kd.R_reads' HO333.out).2.2)
        (case side6 => exact (Kd.R_reads' HO333.out).2.1)
        (case side7 => exact cU (Kd.R_reads' HO336.out).2.2)
        (case side8 => exact (Kd.R_reads' HO336.out).2.1)
        rintro e w114 ⟨rfl, hb⟩
        refine ⟨_, rfl, ?_⟩
        replace HO_301000 := Aside0.mk (Kd.R_below (RU HO_301000.out) hb)
        replace HO_301001 := Aside0.mk (Kd.R_below (RU HO_301001.out) hb)
        replace HO_308000 := Aside0.mk (Kd.R_below (RU HO_308000.out) hb)
        replace HO_308001 := Aside0.mk (Kd.R_below (RU HO_308001.out) hb)
        replace HO_315000 := Aside0.mk (Kd.R_below (RU HO_315000.out) hb)
        replace HO_315001 := Aside0.mk (Kd.R_below (RU HO_315001.out) hb)
        replace HO_323000 := Aside0.mk (Kd.R_below (RU HO_323000.out) hb)
        replace HO_323001 := Aside0.mk (Kd.R_below (RU HO_323001.out) hb)
        replace HO326 := Aside0.mk (Kd.R_below (RU HO326.out) hb)
        replace HO329 := Aside0.mk (Kd.R_below (RU HO329.out) hb)
        replace HO333 := Aside0.mk (Kd.R_below (RU HO333.out) hb)
        replace HO336 := Aside0.mk (Kd.R_below (RU HO336.out) hb)
        replace BK277 := Aside0.mk (kB BK277.out hb)
        replace BK278 := Aside0.mk (kB BK278.out hb)
        replace BK300 := Aside0.mk (kB BK300.out hb)
        replace BK307 := Aside0.mk (kB BK307.out hb)
        replace BK314 := Aside0.mk (kB BK314.out hb)
        replace BK322 := Aside0.mk (kB BK322.out hb)
        replace HB := Aside0.mk (below_step (bS6 HB.out GE277.out GE278.out GE300.out GE307.out GE314.out GE322.out) hb)
        (try clear hb)
        (try clear hb2)
        (try clear hk)
        (try clear hi)
        refine hK.out _ _ ⟨(blk_cell BK314.out 0).trans rfl, (blk_cell BK314.out 1).trans rfl, (blk_cell BK278.out 0).trans rfl, (blk_cell BK278.out 1).trans rfl⟩ (fun hHeld => ?_)
        clear hK K
        refine norm_ (a' := ?_) ?_ ?_
        rotate_left
        ·
         show Act.put _ (some 62) _ = _
         simp only [Act.put, List.setIfInBounds_toArray, List.set_cons_zero, List.set_cons_succ, i64_w, i32_w]
         rfl
        refine pure_ (i := 4) (N := some 63) (v := ?_) (a' := ?_) #[true, true, true, true, true] rfl rfl (by kernel_rfl) (fun _ _ _ h => h) (Or.inl ⟨by rfl, ?_⟩) ?_ ?_
        rotate_left
        ·
         intro w'
         go_simp
         with_reducible rfl
        rotate_left
        ·
         simp only [Act.put, List.setIfInBounds_toArray, List.set_cons_zero, List.set_cons_succ, i64_w, i32_w]
         rfl
        refine done_ (by kernel_rfl) ?_
        have hnb115 := NB307_277.out
        have hnc115 := NB277_307.out
        have hnb116 := NB307_278.out
        have hnc116 := NB278_307.out
        have hnb117 := NB307_300.out
        have hnc117 := NB300_307.out
        have hnb118 := NB307_314.out
        have hnc118 := NB314_307.out
        have hnb119 := NB307_322.out
        have hnc119 := NB322_307.out
        have hcz120_0 : w114.cell? ⟨gb307, 0, none⟩ = some (.slice Ao51 t301.length co51) := (blk_cell BK307.out 0).trans rfl
        have hcz120_1 : w114.cell? ⟨gb307, 1, none⟩ = some (.slice Ao56 t304.length co56) := (blk_cell BK307.out 1).trans rfl
        have hfz120_0 := blk_frozen BK307.out 0
        have hfz120_1 := blk_frozen BK307.out 1
        go_upto_region 21 with (first | ((with_reducible refine gate_callee (f := 11) rfl ?_); refine goesL_ (some 66) rfl rfl Try.func11 (by kernel_rfl) rfl #[.agg #[.slice Ao51 t301.length co51, .slice Ao56 t304.length co56], .int .i64 1] rfl lU ?_; (with_reducible refine (laws_markArray.calls kj24 (fun k_ => some k_ = (.slice Ao51 t301.length co51 : Value).ownBlock) (.slice Ao51 t301.length co51) t301 (fun k_ => some k_ = (.slice Ao56 t304.length co56 : Value).ownBlock) (.slice Ao56 t304.length co56) t304 1 t338 t339 t340 w _ ?side1 ?side2 ?side3 ?side4 ?side5 A102.out).mono ?_); (case side1 => exact bS6 HB.out GE277.out GE278.out GE300.out GE307.out GE314.out GE322.out); (case side2 => exact Kd.R_tight rfl HO_308000.out); (case side3 => exact fun k_ e_ => (HO_308000.out.1 k_ e_.symm).1.1.1.1.2.2.1); (case side4 => exact Kd.R_tight rfl HO_308001.out); (case side5 => exact fun k_ e_ => (HO_308001.out.1 k_ e_.symm).1.1.1.1.2.2.1); rintro e w121 ⟨rfl, hy0, hy1, hb, hkp⟩; refine ⟨_, rfl, ?_⟩; replace HO_301000 := Aside0.mk (Kd.R_mono (ok' := fun k_ => some k_ ≠ (.slice Ao45 t296.length co45 : Value).ownBlock ∧ some k_ ≠ (.slice Ao51 t301.length co51 : Value).ownBlock ∧ some k_ ≠ (.slice Ao56 t304.length co56 : Value).ownBlock ∧ some k_ ≠ (.slice Ao61 t308.length co61 : Value).ownBlock ∧ some k_ ≠ (.slice Ao67 t311.length co67 : Value).ownBlock ∧ some k_ ≠ (.slice Ao73 t315.length co73 : Value).ownBlock ∧ some k_ ≠ (.slice Ao80 t318.length co80 : Value).ownBlock ∧ some k_ ≠ (.slice Ao107 t324.length co107 : Value).ownBlock ∧ some k_ ≠ (.slice Ao108 t327.length co108 : Value).ownBlock ∧ some k_ ≠ (.slice Ao112 t331.length co112 : Value).ownBlock ∧ some k_ ≠ (.slice Ao113 t334.length co113 : Value).ownBlock) (Kd.R_keptB (HO_301000.out) hkp (fun k_ hk_ hs_ => Or.elim hs_ (fun e_ => (hk_.1.1.1.1.2.1) e_) (fun e_ => (hk_.1.1.1.1.2.2.1) e_))) (fun k_ hk_ => ⟨hk_.1.1.1.1.1.1, hk_.1.1.1.1.1.2.1, hk_.1.1.1.1.1.2.2.1, hk_.1.1.1.1.1.2.2.2.1, hk_.1.1.1.1.1.2.2.2.2.1, hk_.1.1.1.1.1.2.2.2.2.2.1, hk_.1.1.1.1.1.2.2.2.2.2.2, hk_.1.1.1.1.2, hk_.1.1.1.2, hk_.1.1.2, hk_.1.2⟩)); replace HO_301001 := Aside0.mk (Kd.R_mono (ok' := fun k_ => some k_ ≠ (.slice Ao43 t293.length co43 : Value).ownBlock ∧ some k_ ≠ (.slice Ao51 t301.length co51 : Value).ownBlock ∧ some k_ ≠ (.slice Ao56 t304.length co56 : Value).ownBlock ∧ some k_ ≠ (.slice Ao61 t308.length co61 : Value).ownBlock ∧ some k_ ≠ (.slice Ao67 t311.length co67 : Value).ownBlock ∧ some k_ ≠ (.slice Ao73 t315.length co73 : Value).ownBlock ∧ some k_ ≠ (.slice Ao80 t318.length co80 : Value).ownBlock ∧ some k_ ≠ (.slice Ao107 t324.length co107 : Value).ownBlock ∧ some k_ ≠ (.slice Ao108 t327.length co108 : Value).ownBlock ∧ some k_ ≠ (.slice Ao112 t331.length co112 : Value).ownBlock ∧ some k_ ≠ (.slice Ao113 t334.length co113 : Value).ownBlock) (Kd.R_keptB (HO_301001.out) hkp (fun k_ hk_ hs_ => Or.elim hs_ (fun e_ => (hk_.1.1.1.1.2.1) e_) (fun e_ => (hk_.1.1.1.1.2.2.1) e_))) (fun k_ hk_ => ⟨hk_.1.1.1.1.1.1, hk_.1.1.1.1.1.2.1, hk_.1.1.1.1.1.2.2.1, hk_.1.1.1.1.1.2.2.2.1, hk_.1.1.1.1.1.2.2.2.2.1, hk_.1.1.1.1.1.2.2.2.2.2.1, hk_.1.1.1.1.1.2.2.2.2.2.2, hk_.1.1.1.1.2, hk_.1.1.1.2, hk_.1.1.2, hk_.1.2⟩)); replace HO_315000 := Aside0.mk (Kd.R_mono (ok' := fun k_ => some k_ ≠ (.slice Ao43 t293.length co43 : Value).ownBlock ∧ some k_ ≠ (.slice Ao45 t296.length co45 : Value).ownBlock ∧ some k_ ≠ (.slice Ao51 t301.length co51 : Value).ownBlock ∧ some k_ ≠ (.slice Ao56 t304.length co56 : Value).ownBlock ∧ some k_ ≠ (.slice Ao67 t311.length co67 : Value).ownBlock ∧ some k_ ≠ (.slice Ao73 t315.length co73 : Value).ownBlock ∧ some k_ ≠ (.slice Ao80 t318.length co80 : Value).ownBlock ∧ some k_ ≠ (.slice Ao107 t324.length co107 : Value).ownBlock ∧ some k_ ≠ (.slice Ao108 t327.length co108 : Value).ownBlock ∧ some k_ ≠ (.slice Ao112 t331.length co112 : Value).ownBlock ∧ some k_ ≠ (.slice Ao113 t334.length co113 : Value).ownBlock) (Kd.R_keptB (HO_315000.out) hkp (fun k_ hk_ hs_ => Or.elim hs_ (fun e_ => (hk_.1.1.1.1.2.2.1) e_) (fun e_ => (hk_.1.1.1.1.2.2.2.1) e_))) (fun k_ hk_ => ⟨hk_.1.1.1.1.1.1, hk_.1.1.1.1.1.2.1, hk_.1.1.1.1.1.2.2.1, hk_.1.1.1.1.1.2.2.2.1, hk_.1.1.1.1.1.2.2.2.2.1, hk_.1.1.1.1.1.2.2.2.2.2.1, hk_.1.1.1.1.1.2.2.2.2.2.2, hk_.1.1.1.1.2, hk_.1.1.1.2, hk_.1.1.2, hk_.1.2⟩)); replace HO_315001 := Aside0.mk (Kd.R_mono (ok' := fun k_ => some k_ ≠ (.slice Ao43 t293.length co43 : Value).ownBlock ∧ some k_ ≠ (.slice Ao45 t296.length co45 : Value).ownBlock ∧ some k_ ≠ (.slice Ao51 t301.length co51 : Value).ownBlock ∧ some k_ ≠ (.slice Ao56 t304.length co56 : Value).ownBlock ∧ some k_ ≠ (.slice Ao61 t308.length co61 : Value).ownBlock ∧ some k_ ≠ (.slice Ao73 t315.length co73 : Value).ownBlock ∧ some k_ ≠ (.slice Ao80 t318.length co80 : Value).ownBlock ∧ some k_ ≠ (.slice Ao107 t324.length co107 : Value).ownBlock ∧ some k_ ≠ (.slice Ao108 t327.length co108 : Value).ownBlock ∧ some k_ ≠ (.slice Ao112 t331.length co112 : Value).ownBlock ∧ some k_ ≠ (.slice Ao113 t334.length co113 : Value).ownBlock) (Kd.R_keptB (HO_315001.out) hkp (fun k_ hk_ hs_ => Or.elim hs_ (fun e_ => (hk_.1.1.1.1.2.2.1) e_) (fun e_ => (hk_.1.1.1.1.2.2.2.1) e_))) (fun k_ hk_ => ⟨hk_.1.1.1.1.1.1, hk_.1.1.1.1.1.2.1, hk_.1.1.1.1.1.2.2.1, hk_.1.1.1.1.1.2.2.2.1, hk_.1.1.1.1.1.2.2.2.2.1, hk_.1.1.1.1.1.2.2.2.2.2.1, hk_.1.1.1.1.1.2.2.2.2.2.2, hk_.1.1.1.1.2, hk_.1.1.1.2, hk_.1.1.2, hk_.1.2⟩)); replace HO_323000 := Aside0.mk (Kd.R_mono (ok' := fun k_ => some k_ ≠ (.slice Ao43 t293.length co43 : Value).ownBlock ∧ some k_ ≠ (.slice Ao45 t296.length co45 : Value).ownBlock ∧ some k_ ≠ (.slice Ao51 t301.length co51 : Value).ownBlock ∧ some k_ ≠ (.slice Ao56 t304.length co56 : Value).ownBlock ∧ some k_ ≠ (.slice Ao61 t308.length co61 : Value).ownBlock ∧ some k_ ≠ (.slice Ao67 t311.length co67 : Value).ownBlock ∧ some k_ ≠ (.slice Ao80 t318.length co80 : Value).ownBlock ∧ some k_ ≠ (.slice Ao107 t324.length co107 : Value).ownBlock ∧ some k_ ≠ (.slice Ao108 t327.length co108 : Value).ownBlock ∧ some k_ ≠ (.slice Ao112 t331.length co112 : Value).ownBlock ∧ some k_ ≠ (.slice Ao113 t334.length co113 : Value).ownBlock) (Kd.R_keptB (HO_323000.out) hkp (fun k_ hk_ hs_ => Or.elim hs_ (fun e_ => (hk_.1.1.1.1.2.2.1) e_) (fun e_ => (hk_.1.1.1.1.2.2.2.1) e_))) (fun k_ hk_ => ⟨hk_.1.1.1.1.1.1, hk_.1.1.1.1.1.2.1, hk_.1.1.1.1.1.2.2.1, hk_.1.1.1.1.1.2.2.2.1, hk_.1.1.1.1.1.2.2.2.2.1, hk_.1.1.1.1.1.2.2.2.2.2.1, hk_.1.1.1.1.1.2.2.2.2.2.2, hk_.1.1.1.1.2, hk_.1.1.1.2, hk_.1.1.2, hk_.1.2⟩)); replace HO_323001 := Aside0.mk (Kd.R_mono (ok' := fun k_ => some k_ ≠ (.slice Ao43 t293.length co43 : Value).ownBlock ∧ some k_ ≠ (.slice Ao45 t296.length co45 : Value).ownBlock ∧ some k_ ≠ (.slice Ao51 t301.length co51 : Value).ownBlock ∧ some k_ ≠ (.slice Ao56 t304.length co56 : Value).ownBlock ∧ some k_ ≠ (.slice Ao61 t308.length co61 : Value).ownBlock ∧ some k_ ≠ (.slice Ao67 t311.length co67 : Value).ownBlock ∧ some k_ ≠ (.slice Ao73 t315.length co73 : Value).ownBlock ∧ some k_ ≠ (.slice Ao107 t324.length co107 : Value).ownBlock ∧ some k_ ≠ (.slice Ao108 t327.length co108 : Value).ownBlock ∧ some k_ ≠ (.slice Ao112 t331.length co112 : Value).ownBlock ∧ some k_ ≠ (.slice Ao113 t334.length co113 : Value).ownBlock) (Kd.R_keptB (HO_323001.out) hkp (fun k_ hk_ hs_ => Or.elim hs_ (fun e_ => (hk_.1.1.1.1.2.2.1) e_) (fun e_ => (hk_.1.1.1.1.2.2.2.1) e_))) (fun k_ hk_ => ⟨hk_.1.1.1.1.1.1, hk_.1.1.1.1.1.2.1, hk_.1.1.1.1.1.2.2.1, hk_.1.1.1.1.1.2.2.2.1, hk_.1.1.1.1.1.2.2.2.2.1, hk_.1.1.1.1.1.2.2.2.2.2.1, hk_.1.1.1.1.1.2.2.2.2.2.2, hk_.1.1.1.1.2, hk_.1.1.1.2, hk_.1.1.2, hk_.1.2⟩)); replace BK277 := Aside0.mk (blk_kept (kU BK277.out) hkp (fun hs_ => Or.elim hs_ (fun e_ => (fun e_ => (Kd.R_ne HO_308000.out BK277.out (by decide)) e_) e_) (fun e_ => (fun e_ => (Kd.R_ne HO_308001.out BK277.out (by decide)) e_) e_))); replace BK278 := Aside0.mk (blk_kept (kU BK278.out) hkp (fun hs_ => Or.elim hs_ (fun e_ => (fun e_ => (Kd.R_ne HO_308000.out BK278.out (by decide)) e_) e_) (fun e_ => (fun e_ => (Kd.R_ne HO_308001.out BK278.out (by decide)) e_) e_))); replace BK300 := Aside0.mk (blk_kept (kU BK300.out) hkp (fun hs_ => Or.elim hs_ (fun e_ => (fun e_ => (Kd.R_ne HO_308000.out BK300.out (by decide)) e_) e_) (fun e_ => (fun e_ => (Kd.R_ne HO_308001.out BK300.out (by decide)) e_) e_))); replace BK307 := Aside0.mk (blk_kept (kU BK307.out) hkp (fun hs_ => Or.elim hs_ (fun e_ => (fun e_ => (Kd.R_ne HO_308000.out BK307.out (by decide)) e_) e_) (fun e_ => (fun e_ => (Kd.R_ne HO_308001.out BK307.out (by decide)) e_) e_))); replace BK314 := Aside0.mk (blk_kept (kU BK314.out) hkp (fun hs_ => Or.elim hs_ (fun e_ => (fun e_ => (Kd.R_ne HO_308000.out BK314.out (by decide)) e_) e_) (fun e_ => (fun e_ => (Kd.R_ne HO_308001.out BK314.out (by decide)) e_) e_))); replace BK322 := Aside0.mk (blk_kept (kU BK322.out) hkp (fun hs_ => Or.elim hs_ (fun e_ => (fun e_ => (Kd.R_ne HO_308000.out BK322.out (by decide)) e_) e_) (fun e_ => (fun e_ => (Kd.R_ne HO_308001.out BK322.out (by decide)) e_) e_))); replace HO_308000 := Aside0.mk (Kd.R_reok rfl hy0 (fun k_ e_ => HO_308000.out.1 k_ e_)); replace HO_308001 := Aside0.mk (Kd.R_reok rfl hy1 (fun k_ e_ => HO_308001.out.1 k_ e_)); replace HO326 := Aside0.mk (Kd.R_mono (ok' := fun k_ => some k_ ≠ (.slice Ao43 t293.length co43 : Value).ownBlock ∧ some k_ ≠ (.slice Ao45 t296.length co45 : Value).ownBlock ∧ some k_ ≠ (.slice Ao51 t301.length co51 : Value).ownBlock ∧ some k_ ≠ (.slice Ao56 t304.length co56 : Value).ownBlock ∧ some k_ ≠ (.slice Ao61 t308.length co61 : Value).ownBlock ∧ some k_ ≠ (.slice Ao67 t311.length co67 : Value).ownBlock ∧ some k_ ≠ (.slice Ao73 t315.length co73 : Value).ownBlock ∧ some k_ ≠ (.slice Ao80 t318.length co80 : Value).ownBlock ∧ some k_ ≠ (.slice Ao108 t327.length co108 : Value).ownBlock ∧ some k_ ≠ (.slice Ao112 t331.length co112 : Value).ownBlock ∧ some k_ ≠ (.slice Ao113 t334.length co113 : Value).ownBlock) (Kd.R_keptB (HO326.out) hkp (fun k_ hk_ hs_ => Or.elim hs_ (fun e_ => (hk_.1.1.1.1.1.1.1.2) e_) (fun e_ => (hk_.1.1.1.1.1.1.2) e_))) (fun k_ hk_ => ⟨hk_.1.1.1.1.1.1.1.1.1.1.2, hk_.1.1.1.1.1.1.1.1.1.2, hk_.1.1.1.1.1.1.1.1.2, hk_.1.1.1.1.1.1.1.2, hk_.1.1.1.1.1.1.2, hk_.1.1.1.1.1.2, hk_.1.1.1.1.2, hk_.1.1.1.2, hk_.1.1.1.1.1.1.1.1.1.1.1, hk_.1.1.2, hk_.1.2⟩)); replace HO329 := Aside0.mk (Kd.R_mono (ok' := fun k_ => some k_ ≠ (.slice Ao43 t293.length co43 : Value).ownBlock ∧ some k_ ≠ (.slice Ao45 t296.length co45 : Value).ownBlock ∧ some k_ ≠ (.slice Ao51 t301.length co51 : Value).ownBlock ∧ some k_ ≠ (.slice Ao56 t304.length co56 : Value).ownBlock ∧ some k_ ≠ (.slice Ao61 t308.length co61 : Value).ownBlock ∧ some k_ ≠ (.slice Ao67 t311.length co67 : Value).ownBlock ∧ some k_ ≠ (.slice Ao73 t315.length co73 : Value).ownBlock ∧ some k_ ≠ (.slice Ao80 t318.length co80 : Value).ownBlock ∧ some k_ ≠ (.slice Ao107 t324.length co107 : Value).ownBlock ∧ some k_ ≠ (.slice Ao112 t331.length co112 : Value).ownBlock ∧ some k_ ≠ (.slice Ao113 t334.length co113 : Value).ownBlock) (Kd.R_keptB (HO329.out) hkp (fun k_ hk_ hs_ => Or.elim hs_ (fun e_ => (hk_.1.1.1.1.1.1.1.2) e_) (fun e_ => (hk_.1.1.1.1.1.1.2) e_))) (fun k_ hk_ => ⟨hk_.1.1.1.1.1.1.1.1.1.1.2, hk_.1.1.1.1.1.1.1.1.1.2, hk_.1.1.1.1.1.1.1.1.2, hk_.1.1.1.1.1.1.1.2, hk_.1.1.1.1.1.1.2, hk_.1.1.1.1.1.2, hk_.1.1.1.1.2, hk_.1.1.1.2, hk_.1.1.1.1.1.1.1.1.1.1.1, hk_.1.1.2, hk_.1.2⟩)); replace HO333 := Aside0.mk (Kd.R_mono (ok' := fun k_ => some k_ ≠ (.slice Ao43 t293.length co43 : Value).ownBlock ∧ some k_ ≠ (.slice Ao45 t296.length co45 : Value).ownBlock ∧ some k_ ≠ (.slice Ao51 t301.length co51 : Value).ownBlock ∧ some k_ ≠ (.slice Ao56 t304.length co56 : Value).ownBlock ∧ some k_ ≠ (.slice Ao61 t308.length co61 : Value).ownBlock ∧ some k_ ≠ (.slice Ao67 t311.length co67 : Value).ownBlock ∧ some k_ ≠ (.slice Ao73 t315.length co73 : Value).ownBlock ∧ some k_ ≠ (.slice Ao80 t318.length co80 : Value).ownBlock ∧ some k_ ≠ (.slice Ao107 t324.length co107 : Value).ownBlock ∧ some k_ ≠ (.slice Ao108 t327.length co108 : Value).ownBlock ∧ some k_ ≠ (.slice Ao113 t334.length co113 : Value).ownBlock) (Kd.R_keptB (HO333.out) hkp (fun k_ hk_ hs_ => Or.elim hs_ (fun e_ => (hk_.1.1.1.1.1.1.1.2) e_) (fun e_ => (hk_.1.1.1.1.1.1.2) e_))) (fun k_ hk_ => ⟨hk_.1.1.1.1.1.1.1.1.1.1.2, hk_.1.1.1.1.1.1.1.1.1.2, hk_.1.1.1.1.1.1.1.1.2, hk_.1.1.1.1.1.1.1.2, hk_.1.1.1.1.1.1.2, hk_.1.1.1.1.1.2, hk_.1.1.1.1.2, hk_.1.1.1.2, hk_.1.1.2, hk_.1.2, hk_.1.1.1.1.1.1.1.1.1.1.1⟩)); replace HO336 := Aside0.mk (Kd.R_mono (ok' := fun k_ => some k_ ≠ (.slice Ao43 t293.length co43 : Value).ownBlock ∧ some k_ ≠ (.slice Ao45 t296.length co45 : Value).ownBlock ∧ some k_ ≠ (.slice Ao51 t301.length co51 : Value).ownBlock ∧ some k_ ≠ (.slice Ao56 t304.length co56 : Value).ownBlock ∧ some k_ ≠ (.slice Ao61 t308.length co61 : Value).ownBlock ∧ some k_ ≠ (.slice Ao67 t311.length co67 : Value).ownBlock ∧ some k_ ≠ (.slice Ao73 t315.length co73 : Value).ownBlock ∧ some k_ ≠ (.slice Ao80 t318.length co80 : Value).ownBlock ∧ some k_ ≠ (.slice Ao107 t324.length co107 : Value).ownBlock ∧ some k_ ≠ (.slice Ao108 t327.length co108 : Value).ownBlock ∧ some k_ ≠ (.slice Ao112 t331.length co112 : Value).ownBlock) (Kd.R_keptB (HO336.out) hkp (fun k_ hk_ hs_ => Or.elim hs_ (fun e_ => (hk_.1.1.1.1.1.1.1.2) e_) (fun e_ => (hk_.1.1.1.1.1.1.2) e_))) (fun k_ hk_ => ⟨hk_.1.1.1.1.1.1.1.1.1.1.2, hk_.1.1.1.1.1.1.1.1.1.2, hk_.1.1.1.1.1.1.1.1.2, hk_.1.1.1.1.1.1.1.2, hk_.1.1.1.1.1.1.2, hk_.1.1.1.1.1.2, hk_.1.1.1.1.2, hk_.1.1.1.2, hk_.1.1.2, hk_.1.2, hk_.1.1.1.1.1.1.1.1.1.1.1⟩)); replace HB := Aside0.mk (hb); (try clear hb); (try clear hkp); (try clear hy0); (try clear hy1); have hnb122 := NB314_277.out; have hnc122 := NB277_314.out; have hnb123 := NB314_278.out; have hnc123 := NB278_314.out; have hnb124 := NB314_300.out; have hnc124 := NB300_314.out; have hnb125 := NB314_322.out; have hnc125 := NB322_314.out; have hcz126_0 : w121.cell? ⟨gb314, 0, none⟩ = some (.slice Ao61 t308.length co61) := (blk_cell BK314.out 0).trans rfl; have hcz126_1 : w121.cell? ⟨gb314, 1, none⟩ = some (.slice Ao67 t311.length co67) := (blk_cell BK314.out 1).trans rfl; have hfz126_0 := blk_frozen BK314.out 0; have hfz126_1 := blk_frozen BK314.out 1) | ((with_reducible refine gate_callee (f := 11) rfl ?_); refine goesL_ (some 69) rfl rfl Try.func11 (by kernel_rfl) rfl #[.agg #[.slice Ao61 t308.length co61, .slice Ao67 t311.length co67], .int .i64 t338] rfl lU ?_; (with_reducible refine (laws_markArray.calls kj24 (fun k_ => some k_ = (.slice Ao61 t308.length co61 : Value).ownBlock) (.slice Ao61 t308.length co61) t308 (fun k_ => some k_ = (.slice Ao67 t311.length co67 : Value).ownBlock) (.slice Ao67 t311.length co67) t311 t338 t341 t342 t343 w _ ?side1 ?side2 ?side3 ?side4 ?side5 A103.out).mono ?_); (case side1 => exact bS6 HB.out GE277.out GE278.out GE300.out GE307.out GE314.out GE322.out); (case side2 => exact Kd.R_tight rfl HO_315000.out); (case side3 => exact fun k_ e_ => (HO_315000.out.1 k_ e_.symm).2.2.2.2.1); (case side4 => exact Kd.R_tight rfl HO_315001.out); (case side5 => exact fun k_ e_ => (HO_315001.out.1 k_ e_.symm).2.2.2.2.1); rintro e w127 ⟨rfl, hy0, hy1, hb, hkp⟩; refine ⟨_, rfl, ?_⟩; replace HO_301000 := Aside0.mk (Kd.R_mono (ok' := fun k_ => some k_ ≠ (.slice Ao45 t296.length co45 : Value).ownBlock ∧ some k_ ≠ (.slice Ao51 t301.length co51 : Value).ownBlock ∧ some k_ ≠ (.slice Ao56 t304.length co56 : Value).ownBlock ∧ some k_ ≠ (.slice Ao61 t308.length co61 : Value).ownBlock ∧ some k_ ≠ (.slice Ao67 t311.length co67 : Value).ownBlock ∧ some k_ ≠ (.slice Ao73 t315.length co73 : Value).ownBlock ∧ some k_ ≠ (.slice Ao80 t318.length co80 : Value).ownBlock ∧ some k_ ≠ (.slice Ao107 t324.length co107 : Value).ownBlock ∧ some k_ ≠ (.slice Ao108 t327.length co108 : Value).ownBlock ∧ some k_ ≠ (.slice Ao112 t331.length co112 : Value).ownBlock ∧ some k_ ≠ (.slice Ao113 t334.length co113 : Value).ownBlock) (Kd.R_keptB (HO_301000.out) hkp (fun k_ hk_ hs_ => Or.elim hs_ (fun e_ => (hk_.2.2.2.1) e_) (fun e_ => (hk_.2.2.2.2.1) e_))) (fun k_ hk_ => ⟨hk_.1.1, hk_.1.2.1, hk_.1.2.2.1, hk_.1.2.2.2.1, hk_.1.2.2.2.2.1, hk_.1.2.2.2.2.2.1, hk_.1.2.2.2.2.2.2.1, hk_.1.2.2.2.2.2.2.2.1, hk_.1.2.2.2.2.2.2.2.2.1, hk_.1.2.2.2.2.2.2.2.2.2.1, hk_.1.2.2.2.2.2.2.2.2.2.2⟩)); replace HO_301001 := Aside0.mk (Kd.R_mono (ok' := fun k_ => some k_ ≠ (.slice Ao43 t293.length co43 : Value).ownBlock ∧ some k_ ≠ (.slice Ao51 t301.length co51 : Value).ownBlock ∧ some k_ ≠ (.slice Ao56 t304.length co56 : Value).ownBlock ∧ some k_ ≠ (.slice Ao61 t308.length co61 : Value).ownBlock ∧ some k_ ≠ (.slice Ao67 t311.length co67 : Value).ownBlock ∧ some k_ ≠ (.slice Ao73 t315.length co73 : Value).ownBlock ∧ some k_ ≠ (.slice Ao80 t318.length co80 : Value).ownBlock ∧ some k_ ≠ (.slice Ao107 t324.length co107 : Value).ownBlock ∧ some k_ ≠ (.slice Ao108 t327.length co108 : Value).ownBlock ∧ some k_ ≠ (.slice Ao112 t331.length co112 : Value).ownBlock ∧ some k_ ≠ (.slice Ao113 t334.length co113 : Value).ownBlock) (Kd.R_keptB (HO_301001.out) hkp (fun k_ hk_ hs_ => Or.elim hs_ (fun e_ => (hk_.2.2.2.1) e_) (fun e_ => (hk_.2.2.2.2.1) e_))) (fun k_ hk_ => ⟨hk_.1.1, hk_.1.2.1, hk_.1.2.2.1, hk_.1.2.2.2.1, hk_.1.2.2.2.2.1, hk_.1.2.2.2.2.2.1, hk_.1.2.2.2.2.2.2.1, hk_.1.2.2.2.2.2.2.2.1, hk_.1.2.2.2.2.2.2.2.2.1, hk_.1.2.2.2.2.2.2.2.2.2.1, hk_.1.2.2.2.2.2.2.2.2.2.2⟩)); replace HO_308000 := Aside0.mk (Kd.R_mono (ok' := fun k_ => some k_ ≠ (.slice Ao43 t293.length co43 : Value).ownBlock ∧ some k_ ≠ (.slice Ao45 t296.length co45 : Value).ownBlock ∧ some k_ ≠ (.slice Ao56 t304.length co56 : Value).ownBlock ∧ some k_ ≠ (.slice Ao61 t308.length co61 : Value).ownBlock ∧ some k_ ≠ (.slice Ao67 t311.length co67 : Value).ownBlock ∧ some k_ ≠ (.slice Ao73 t315.length co73 : Value).ownBlock ∧ some k_ ≠ (.slice Ao80 t318.length co80 : Value).ownBlock ∧ some k_ ≠ (.slice Ao107 t324.length co107 : Value).ownBlock ∧ some k_ ≠ (.slice Ao108 t327.length co108 : Value).ownBlock ∧ some k_ ≠ (.slice Ao112 t331.length co112 : Value).ownBlock ∧ some k_ ≠ (.slice Ao113 t334.length co113 : Value).ownBlock) (Kd.R_keptB (HO_308000.out) hkp (fun k_ hk_ hs_ => Or.elim hs_ (fun e_ => (hk_.1.1.1.1.2.2.2.1) e_) (fun e_ => (hk_.1.1.1.1.2.2.2.2.1) e_))) (fun k_ hk_ => ⟨hk_.1.1.1.1.1.1, hk_.1.1.1.1.1.2.1, hk_.1.1.1.1.1.2.2.1, hk_.1.1.1.1.1.2.2.2.1, hk_.1.1.1.1.1.2.2.2.2.1, hk_.1.1.1.1.1.2.2.2.2.2.1, hk_.1.1.1.1.1.2.2.2.2.2.2, hk_.1.1.1.1.2, hk_.1.1.1.2, hk_.1.1.2, hk_.1.2⟩)); replace HO_308001 := Aside0.mk (Kd.R_mono (ok' := fun k_ => some k_ ≠ (.slice Ao43 t293.length co43 : Value).ownBlock ∧ some k_ ≠ (.slice Ao45 t296.length co45 : Value).ownBlock ∧ some k_ ≠ (.slice Ao51 t301.length co51 : Value).ownBlock ∧ some k_ ≠ (.slice Ao61 t308.length co61 : Value).ownBlock ∧ some k_ ≠ (.slice Ao67 t311.length co67 : Value).ownBlock ∧ some k_ ≠ (.slice Ao73 t315.length co73 : Value).ownBlock ∧ some k_ ≠ (.slice Ao80 t318.length co80 : Value).ownBlock ∧ some k_ ≠ (.slice Ao107 t324.length co107 : Value).ownBlock ∧ some k_ ≠ (.slice Ao108 t327.length co108 : Value).ownBlock ∧ some k_ ≠ (.slice Ao112 t331.length co112 : Value).ownBlock ∧ some k_ ≠ (.slice Ao113 t334.length co113 : Value).ownBlock) (Kd.R_keptB (HO_308001.out) hkp (fun k_ hk_ hs_ => Or.elim hs_ (fun e_ => (hk_.1.1.1.1.2.2.2.1) e_) (fun e_ => (hk_.1.1.1.1.2.2.2.2.1) e_))) (fun k_ hk_ => ⟨hk_.1.1.1.1.1.1, hk_.1.1.1.1.1.2.1, hk_.1.1.1.1.1.2.2.1, hk_.1.1.1.1.1.2.2.2.1, hk_.1.1.1.1.1.2.2.2.2.1, hk_.1.1.1.1.1.2.2.2.2.2.1, hk_.1.1.1.1.1.2.2.2.2.2.2, hk_.1.1.1.1.2, hk_.1.1.1.2, hk_.1.1.2, hk_.1.2⟩)); replace HO_323000 := Aside0.mk (Kd.R_mono (ok' := fun k_ => some k_ ≠ (.slice Ao43 t293.length co43 : Value).ownBlock ∧ some k_ ≠ (.slice Ao45 t296.length co45 : Value).ownBlock ∧ some k_ ≠ (.slice Ao51 t301.length co51 : Value).ownBlock ∧ some k_ ≠ (.slice Ao56 t304.length co56 : Value).ownBlock ∧ some k_ ≠ (.slice Ao61 t308.length co61 : Value).ownBlock ∧ some k_ ≠ (.slice Ao67 t311.length co67 : Value).ownBlock ∧ some k_ ≠ (.slice Ao80 t318.length co80 : Value).ownBlock ∧ some k_ ≠ (.slice Ao107 t324.length co107 : Value).ownBlock ∧ some k_ ≠ (.slice Ao108 t327.length co108 : Value).ownBlock ∧ some k_ ≠ (.slice Ao112 t331.length co112 : Value).ownBlock ∧ some k_ ≠ (.slice Ao113 t334.length co113 : Value).ownBlock) (Kd.R_keptB (HO_323000.out) hkp (fun k_ hk_ hs_ => Or.elim hs_ (fun e_ => (hk_.2.2.2.2.1) e_) (fun e_ => (hk_.2.2.2.2.2.1) e_))) (fun k_ hk_ => ⟨hk_.1.1, hk_.1.2.1, hk_.1.2.2.1, hk_.1.2.2.2.1, hk_.1.2.2.2.2.1, hk_.1.2.2.2.2.2.1, hk_.1.2.2.2.2.2.2.1, hk_.1.2.2.2.2.2.2.2.1, hk_.1.2.2.2.2.2.2.2.2.1, hk_.1.2.2.2.2.2.2.2.2.2.1, hk_.1.2.2.2.2.2.2.2.2.2.2⟩)); replace HO_323001 := Aside0.mk (Kd.R_mono (ok' := fun k_ => some k_ ≠ (.slice Ao43 t293.length co43 : Value).ownBlock ∧ some k_ ≠ (.slice Ao45 t296.length co45 : Value).ownBlock ∧ some k_ ≠ (.slice Ao51 t301.length co51 : Value).ownBlock ∧ some k_ ≠ (.slice Ao56 t304.length co56 : Value).ownBlock ∧ some k_ ≠ (.slice Ao61 t308.length co61 : Value).ownBlock ∧ some k_ ≠ (.slice Ao67 t311.length co67 : Value).ownBlock ∧ some k_ ≠ (.slice Ao73 t315.length co73 : Value).ownBlock ∧ some k_ ≠ (.slice Ao107 t324.length co107 : Value).ownBlock ∧ some k_ ≠ (.slice Ao108 t327.length co108 : Value).ownBlock ∧ some k_ ≠ (.slice Ao112 t331.length co112 : Value).ownBlock ∧ some k_ ≠ (.slice Ao113 t334.length co113 : Value).ownBlock) (Kd.R_keptB (HO_323001.out) hkp (fun k_ hk_ hs_ => Or.elim hs_ (fun e_ => (hk_.2.2.2.2.1) e_) (fun e_ => (hk_.2.2.2.2.2.1) e_))) (fun k_ hk_ => ⟨hk_.1.1, hk_.1.2.1, hk_.1.2.2.1, hk_.1.2.2.2.1, hk_.1.2.2.2.2.1, hk_.1.2.2.2.2.2.1, hk_.1.2.2.2.2.2.2.1, hk_.1.2.2.2.2.2.2.2.1, hk_.1.2.2.2.2.2.2.2.2.1, hk_.1.2.2.2.2.2.2.2.2.2.1, hk_.1.2.2.2.2.2.2.2.2.2.2⟩)); replace BK277 := Aside0.mk (blk_kept (kU BK277.out) hkp (fun hs_ => Or.elim hs_ (fun e_ => (fun e_ => (Kd.R_ne HO_315000.out BK277.out (by decide)) e_) e_) (fun e_ => (fun e_ => (Kd.R_ne HO_315001.out BK277.out (by decide)) e_) e_))); replace BK278 := Aside0.mk (blk_kept (kU BK278.out) hkp (fun hs_ => Or.elim hs_ (fun e_ => (fun e_ => (Kd.R_ne HO_315000.out BK278.out (by decide)) e_) e_) (fun e_ => (fun e_ => (Kd.R_ne HO_315001.out BK278.out (by decide)) e_) e_))); replace BK300 := Aside0.mk (blk_kept (kU BK300.out) hkp (fun hs_ => Or.elim hs_ (fun e_ => (fun e_ => (Kd.R_ne HO_315000.out BK300.out (by decide)) e_) e_) (fun e_ => (fun e_ => (Kd.R_ne HO_315001.out BK300.out (by decide)) e_) e_))); replace BK307 := Aside0.mk (blk_kept (kU BK307.out) hkp (fun hs_ => Or.elim hs_ (fun e_ => (fun e_ => (Kd.R_ne HO_315000.out BK307.out (by decide)) e_) e_) (fun e_ => (fun e_ => (Kd.R_ne HO_315001.out BK307.out (by decide)) e_) e_))); replace BK314 := Aside0.mk (blk_kept (kU BK314.out) hkp (fun hs_ => Or.elim hs_ (fun e_ => (fun e_ => (Kd.R_ne HO_315000.out BK314.out (by decide)) e_) e_) (fun e_ => (fun e_ => (Kd.R_ne HO_315001.out BK314.out (by decide)) e_) e_))); replace BK322 := Aside0.mk (blk_kept (kU BK322.out) hkp (fun hs_ => Or.elim hs_ (fun e_ => (fun e_ => (Kd.R_ne HO_315000.out BK322.out (by decide)) e_) e_) (fun e_ => (fun e_ => (Kd.R_ne HO_315001.out BK322.out (by decide)) e_) e_))); replace HO_315000 := Aside0.mk (Kd.R_reok rfl hy0 (fun k_ e_ => HO_315000.out.1 k_ e_)); replace HO_315001 := Aside0.mk (Kd.R_reok rfl hy1 (fun k_ e_ => HO_315001.out.1 k_ e_)); replace HO326 := Aside0.mk (Kd.R_mono (ok' := fun k_ => some k_ ≠ (.slice Ao43 t293.length co43 : Value).ownBlock ∧ some k_ ≠ (.slice Ao45 t296.length co45 : Value).ownBlock ∧ some k_ ≠ (.slice Ao51 t301.length co51 : Value).ownBlock ∧ some k_ ≠ (.slice Ao56 t304.length co56 : Value).ownBlock ∧ some k_ ≠ (.slice Ao61 t308.length co61 : Value).ownBlock ∧ some k_ ≠ (.slice Ao67 t311.length co67 : Value).ownBlock ∧ some k_ ≠ (.slice Ao73 t315.length co73 : Value).ownBlock ∧ some k_ ≠ (.slice Ao80 t318.length co80 : Value).ownBlock ∧ some k_ ≠ (.slice Ao108 t327.length co108 : Value).ownBlock ∧ some k_ ≠ (.slice Ao112 t331.length co112 : Value).ownBlock ∧ some k_ ≠ (.slice Ao113 t334.length co113 : Value).ownBlock) (Kd.R_keptB (HO326.out) hkp (fun k_ hk_ hs_ => Or.elim hs_ (fun e_ => (hk_.2.2.2.2.1) e_) (fun e_ => (hk_.2.2.2.2.2.1) e_))) (fun k_ hk_ => ⟨hk_.1.1, hk_.1.2.1, hk_.1.2.2.1, hk_.1.2.2.2.1, hk_.1.2.2.2.2.1, hk_.1.2.2.2.2.2.1, hk_.1.2.2.2.2.2.2.1, hk_.1.2.2.2.2.2.2.2.1, hk_.1.2.2.2.2.2.2.2.2.1, hk_.1.2.2.2.2.2.2.2.2.2.1, hk_.1.2.2.2.2.2.2.2.2.2.2⟩)); replace HO329 := Aside0.mk (Kd.R_mono (ok' := fun k_ => some k_ ≠ (.slice Ao43 t293.length co43 : Value).ownBlock ∧ some k_ ≠ (.slice Ao45 t296.length co45 : Value).ownBlock ∧ some k_ ≠ (.slice Ao51 t301.length co51 : Value).ownBlock ∧ some k_ ≠ (.slice Ao56 t304.length co56 : Value).ownBlock ∧ some k_ ≠ (.slice Ao61 t308.length co61 : Value).ownBlock ∧ some k_ ≠ (.slice Ao67 t311.length co67 : Value).ownBlock ∧ some k_ ≠ (.slice Ao73 t315.length co73 : Value).ownBlock ∧ some k_ ≠ (.slice Ao80 t318.length co80 : Value).ownBlock ∧ some k_ ≠ (.slice Ao107 t324.length co107 : Value).ownBlock ∧ some k_ ≠ (.slice Ao112 t331.length co112 : Value).ownBlock ∧ some k_ ≠ (.slice Ao113 t334.length co113 : Value).ownBlock) (Kd.R_keptB (HO329.out) hkp (fun k_ hk_ hs_ => Or.elim hs_ (fun e_ => (hk_.2.2.2.2.1) e_) (fun e_ => (hk_.2.2.2.2.2.1) e_))) (fun k_ hk_ => ⟨hk_.1.1, hk_.1.2.1, hk_.1.2.2.1, hk_.1.2.2.2.1, hk_.1.2.2.2.2.1, hk_.1.2.2.2.2.2.1, hk_.1.2.2.2.2.2.2.1, hk_.1.2.2.2.2.2.2.2.1, hk_.1.2.2.2.2.2.2.2.2.1, hk_.1.2.2.2.2.2.2.2.2.2.1, hk_.1.2.2.2.2.2.2.2.2.2.2⟩)); replace HO333 := Aside0.mk (Kd.R_mono (ok' := fun k_ => some k_ ≠ (.slice Ao43 t293.length co43 : Value).ownBlock ∧ some k_ ≠ (.slice Ao45 t296.length co45 : Value).ownBlock ∧ some k_ ≠ (.slice Ao51 t301.length co51 : Value).ownBlock ∧ some k_ ≠ (.slice Ao56 t304.length co56 : Value).ownBlock ∧ some k_ ≠ (.slice Ao61 t308.length co61 : Value).ownBlock ∧ some k_ ≠ (.slice Ao67 t311.length co67 : Value).ownBlock ∧ some k_ ≠ (.slice Ao73 t315.length co73 : Value).ownBlock ∧ some k_ ≠ (.slice Ao80 t318.length co80 : Value).ownBlock ∧ some k_ ≠ (.slice Ao107 t324.length co107 : Value).ownBlock ∧ some k_ ≠ (.slice Ao108 t327.length co108 : Value).ownBlock ∧ some k_ ≠ (.slice Ao113 t334.length co113 : Value).ownBlock) (Kd.R_keptB (HO333.out) hkp (fun k_ hk_ hs_ => Or.elim hs_ (fun e_ => (hk_.2.2.2.2.1) e_) (fun e_ => (hk_.2.2.2.2.2.1) e_))) (fun k_ hk_ => ⟨hk_.1.1, hk_.1.2.1, hk_.1.2.2.1, hk_.1.2.2.2.1, hk_.1.2.2.2.2.1, hk_.1.2.2.2.2.2.1, hk_.1.2.2.2.2.2.2.1, hk_.1.2.2.2.2.2.2.2.1, hk_.1.2.2.2.2.2.2.2.2.1, hk_.1.2.2.2.2.2.2.2.2.2.1, hk_.1.2.2.2.2.2.2.2.2.2.2⟩)); replace HO336 := Aside0.mk (Kd.R_mono (ok' := fun k_ => some k_ ≠ (.slice Ao43 t293.length co43 : Value).ownBlock ∧ some k_ ≠ (.slice Ao45 t296.length co45 : Value).ownBlock ∧ some k_ ≠ (.slice Ao51 t301.length co51 : Value).ownBlock ∧ some k_ ≠ (.slice Ao56 t304.length co56 : Value).ownBlock ∧ some k_ ≠ (.slice Ao61 t308.length co61 : Value).ownBlock ∧ some k_ ≠ (.slice Ao67 t311.length co67 : Value).ownBlock ∧ some k_ ≠ (.slice Ao73 t315.length co73 : Value).ownBlock ∧ some k_ ≠ (.slice Ao80 t318.length co80 : Value).ownBlock ∧ some k_ ≠ (.slice Ao107 t324.length co107 : Value).ownBlock ∧ some k_ ≠ (.slice Ao108 t327.length co108 : Value).ownBlock ∧ some k_ ≠ (.slice Ao112 t331.length co112 : Value).ownBlock) (Kd.R_keptB (HO336.out) hkp (fun k_ hk_ hs_ => Or.elim hs_ (fun e_ => (hk_.2.2.2.2.1) e_) (fun e_ => (hk_.2.2.2.2.2.1) e_))) (fun k_ hk_ => ⟨hk_.1.1, hk_.1.2.1, hk_.1.2.2.1, hk_.1.2.2.2.1, hk_.1.2.2.2.2.1, hk_.1.2.2.2.2.2.1, hk_.1.2.2.2.2.2.2.1, hk_.1.2.2.2.2.2.2.2.1, hk_.1.2.2.2.2.2.2.2.2.1, hk_.1.2.2.2.2.2.2.2.2.2.1, hk_.1.2.2.2.2.2.2.2.2.2.2⟩)); replace HB := Aside0.mk (hb); (try clear hb); (try clear hkp); (try clear hy0); (try clear hy1)))
        (try simp only [Act.put, List.setIfInBounds_toArray, List.set_cons_zero, List.set_cons_succ])
        go_cut [82] (fun v82 wc => ∃ (kq : Nat) (x82_103 : Bool), v82 = .bool x82_103 ∧ Aside0 (laws_FnExactPick.j1 kq t299 x82_103 l0_0 l0_1 l1_0 l1_1 t293 t296 t315 t318 = some r) ∧ Aside0 (kq ≤ kj24) ∧ Aside0 (Kd.R (Kd.int .i64) 3 wc w.heap.size (fun k_ => some k_ ≠ ((.slice Ao45 t296.length co45) : Value).ownBlock ∧ some k_ ≠ ((.slice Ao51 t301.length co51) : Value).ownBlock ∧ some k_ ≠ ((.slice Ao56 t304.length co56) : Value).ownBlock ∧ some k_ ≠ ((.slice Ao61 t308.length co61) : Value).ownBlock ∧ some k_ ≠ ((.slice Ao67 t311.length co67) : Value).ownBlock ∧ some k_ ≠ ((.slice Ao73 t315.length co73) : Value).ownBlock ∧ some k_ ≠ ((.slice Ao80 t318.length co80) : Value).ownBlock) (.slice Ao43 t293.length co43) t293) ∧ Aside0 (Kd.R (Kd.int .i64) 3 wc w.heap.size (fun k_ => some k_ ≠ ((.slice Ao43 t293.length co43) : Value).ownBlock ∧ some k_ ≠ ((.slice Ao51 t301.length co51) : Value).ownBlock ∧ some k_ ≠ ((.slice Ao56 t304.length co56) : Value).ownBlock ∧ some k_ ≠ ((.slice Ao61 t308.length co61) : Value).ownBlock ∧ some k_ ≠ ((.slice Ao67 t311.length co67) : Value).ownBlock ∧ some k_ ≠ ((.slice Ao73 t315.length co73) : Value).ownBlock ∧ some k_ ≠ ((.slice Ao80 t318.length co80) : Value).ownBlock) (.slice Ao45 t296.length co45) t296) ∧ Aside0 (Kd.R (Kd.int .i64) 3 wc w.heap.size (fun k_ => some k_ ≠ ((.slice Ao43 t293.length co43) : Value).ownBlock ∧ some k_ ≠ ((.slice Ao45 t296.length co45) : Value).ownBlock ∧ some k_ ≠ ((.slice Ao56 t304.length co56) : Value).ownBlock ∧ some k_ ≠ ((.slice Ao61 t308.length co61) : Value).ownBlock ∧ some k_ ≠ ((.slice Ao67 t311.length co67) : Value).ownBlock ∧ some k_ ≠ ((.slice Ao73 t315.length co73) : Value).ownBlock ∧ some k_ ≠ ((.slice Ao80 t318.length co80) : Value).ownBlock) (.slice Ao51 t301.length co51) t339) ∧ Aside0 (Kd.R (Kd.int .i64) 3 wc w.heap.size (fun k_ => some k_ ≠ ((.slice Ao43 t293.length co43) : Value).ownBlock ∧ some k_ ≠ ((.slice Ao45 t296.length co45) : Value).ownBlock ∧ some k_ ≠ ((.slice Ao51 t301.length co51) : Value).ownBlock ∧ some k_ ≠ ((.slice Ao61 t308.length co61) : Value).ownBlock ∧ some k_ ≠ ((.slice Ao67 t311.length co67) : Value).ownBlock ∧ some k_ ≠ ((.slice Ao73 t315.length co73) : Value).ownBlock ∧ some k_ ≠ ((.slice Ao80 t318.length co80) : Value).ownBlock) (.slice Ao56 t304.length co56) t340) ∧ Aside0 (Kd.R (Kd.int .i64) 3 wc w.heap.size (fun k_ => some k_ ≠ ((.slice Ao43 t293.length co43) : Value).ownBlock ∧ some k_ ≠ ((.slice Ao45 t296.length co45) : Value).ownBlock ∧ some k_ ≠ ((.slice Ao51 t301.length co51) : Value).ownBlock ∧ some k_ ≠ ((.slice Ao56 t304.length co56) : Value).ownBlock ∧ some k_ ≠ ((.slice Ao67 t311.length co67) : Value).ownBlock ∧ some k_ ≠ ((.slice Ao73 t315.length co73) : Value).ownBlock ∧ some k_ ≠ ((.slice Ao80 t318.length co80) : Value).ownBlock) (.slice Ao61 t308.length co61) t342) ∧ Aside0 (Kd.R (Kd.int .i64) 3 wc w.heap.size (fun k_ => some k_ ≠ ((.slice Ao43 t293.length co43) : Value).ownBlock ∧ some k_ ≠ ((.slice Ao45 t296.length co45) : Value).ownBlock ∧ some k_ ≠ ((.slice Ao51 t301.length co51) : Value).ownBlock ∧ some k_ ≠ ((.slice Ao56 t304.length co56) : Value).ownBlock ∧ some k_ ≠ ((.slice Ao61 t308.length co61) : Value).ownBlock ∧ some k_ ≠ ((.slice Ao73 t315.length co73) : Value).ownBlock ∧ some k_ ≠ ((.slice Ao80 t318.length co80) : Value).ownBlock) (.slice Ao67 t311.length co67) t343) ∧ Aside0 (Kd.R (Kd.int .i64) 3 wc w.heap.size (fun k_ => some k_ ≠ ((.slice Ao43 t293.length co43) : Value).ownBlock ∧ some k_ ≠ ((.slice Ao45 t296.length co45) : Value).ownBlock ∧ some k_ ≠ ((.slice Ao51 t301.length co51) : Value).ownBlock ∧ some k_ ≠ ((.slice Ao56 t304.length co56) : Value).ownBlock ∧ some k_ ≠ ((.slice Ao61 t308.length co61) : Value).ownBlock ∧ some k_ ≠ ((.slice Ao67 t311.length co67) : Value).ownBlock ∧ some k_ ≠ ((.slice Ao80 t318.length co80) : Value).ownBlock) (.slice Ao73 t315.length co73) t315) ∧ Aside0 (Kd.R (Kd.int .i64) 3 wc w.heap.size (fun k_ => some k_ ≠ ((.slice Ao43 t293.length co43) : Value).ownBlock ∧ some k_ ≠ ((.slice Ao45 t296.length co45) : Value).ownBlock ∧ some k_ ≠ ((.slice Ao51 t301.length co51) : Value).ownBlock ∧ some k_ ≠ ((.slice Ao56 t304.length co56) : Value).ownBlock ∧ some k_ ≠ ((.slice Ao61 t308.length co61) : Value).ownBlock ∧ some k_ ≠ ((.slice Ao67 t311.length co67) : Value).ownBlock ∧ some k_ ≠ ((.slice Ao73 t315.length co73) : Value).ownBlock) (.slice Ao80 t318.length co80) t318) ∧ Aside0 (wc.heap[gb277]? = some (.cells #[(.slice A0_0 l0_0.length c0_0), (.slice A0_1 l0_1.length c0_1)] 24 (0, 0))) ∧ Aside0 (wc.heap[gb278]? = some (.cells #[(.slice A1_0 l1_0.length c1_0), (.slice A1_1 l1_1.length c1_1)] 24 (0, 0))) ∧ Aside0 (wc.heap[gb300]? = some (.cells #[(.slice Ao43 t293.length co43), (.slice Ao45 t296.length co45)] 28 (0, 0))) ∧ Aside0 (wc.heap[gb307]? = some (.cells #[(.slice Ao51 t301.length co51), (.slice Ao56 t304.length co56)] 28 (0, 0))) ∧ Aside0 (wc.heap[gb314]? = some (.cells #[(.slice Ao61 t308.length co61), (.slice Ao67 t311.length co67)] 28 (0, 0))) ∧ Aside0 (wc.heap[gb322]? = some (.cells #[(.slice Ao73 t315.length co73), (.slice Ao80 t318.length co80)] 28 (0, 0))) ∧ Aside0 (Below w.heap.size w wc))
        case first =>
         have H := HC104.out
         clear HC104
         by_cases c128 : t341 < 0
         ·
          rw [if_pos c128] at H
          have c128b0 : decide (t341 < 0) = true := decide_eq_true c128
          clear c128
          (first | rw [c128b0] | (simp only [i64_w, i32_w]; rw [c128b0]) | rw [c128b1] | (simp only [i64_w, i32_w]; rw [c128b1]) | skip)
          have hz_ : ∀ kz, laws_FnExactPick.j1 kz t299 true l0_0 l0_1 l1_0 l1_1 t293 t296 t315 t318 = some r → r = false := by intro kz hz; cases kz with | zero => exact absurd hz (by simp [laws_FnExactPick.j1]) | succ kz => simp only [laws_FnExactPick.j1] at hz; first | (rw [if_pos rfl] at hz; exact (Option.some.inj hz).symm) | (simp at hz; exact hz.symm) | (simp at hz; exact hz)
          exact absurd (HT.out.symm.trans (hz_ _ H)) (by decide)
         ·
          rw [if_neg c128] at H
          have c128b0 : decide (t341 < 0) = false := decide_eq_false c128
          clear c128
          (first | rw [c128b0] | (simp only [i64_w, i32_w]; rw [c128b0]) | rw [c128b1] | (simp only [i64_w, i32_w]; rw [c128b1]) | skip)
          replace H := Option.bind_eq_some_iff.mp H
          obtain ⟨t344, A1290, H⟩ := H
          replace H : (if t344 = true then (laws_FnExactPick.j1 kj24 t299 (t321 != t299) l0_0 l0_1 l1_0 l1_1 t293 t296 t315 t318) else (laws_FnExactPick.j1 kj24 t299 true l0_0 l0_1 l1_0 l1_1 t293 t296 t315 t318)) = some r := H
          have A129 := Aside0.mk A1290
          clear A1290
          by_cases c130 : t344 = true
          ·
           subst c130
           have H1 : (laws_FnExactPick.j1 kj24 t299 (t321 != t299) l0_0 l0_1 l1_0 l1_1 t293 t296 t315 t318) = some r := by rw [if_pos rfl] at H; exact H
           clear H
           have H := H1
           clear H1
           have H' := Aside0.mk H
           clear H
           have hnb131 := NB322_277.out
           have hnc131 := NB277_322.out
           have hnb132 := NB322_278.out
           have hnc132 := NB278_322.out
           have hnb133 := NB322_300.out
           have hnc133 := NB300_322.out
           have hnb134 := NB322_307.out
           have hnc134 := NB307_322.out
           have hnb135 := NB322_314.out
           have hnc135 := NB314_322.out
           have hcz136_0 : w127.cell? ⟨gb322, 0, none⟩ = some (.slice Ao73 t315.length co73) := (blk_cell BK322.out 0).trans rfl
           have hcz136_1 : w127.cell? ⟨gb322, 1, none⟩ = some (.slice Ao80 t318.length co80) := (blk_cell BK322.out 1).trans rfl
           have hfz136_0 := blk_frozen BK322.out 0
           have hfz136_1 := blk_frozen BK322.out 1
           have hnb137 := NB300_277.out
           have hnc137 := NB277_300.out
           have hnb138 := NB300_278.out
           have hnc138 := NB278_300.out
           have hnb139 := NB300_307.out
           have hnc139 := NB307_300.out
           have hnb140 := NB300_314.out
           have hnc140 := NB314_300.out
           have hcz141_0 : w127.cell? ⟨gb300, 0, none⟩ = some (.slice Ao43 t293.length co43) := (blk_cell BK300.out 0).trans rfl
           have hcz141_1 : w127.cell? ⟨gb300, 1, none⟩ = some (.slice Ao45 t296.length co45) := (blk_cell BK300.out 1).trans rfl
           have hfz141_0 := blk_frozen BK300.out 0
           have hfz141_1 := blk_frozen BK300.out 1
           go_wp2_with (first | (go_at_call 10; (repeat rw [i64_w]); (with_reducible refine (laws_eqArray.calls kj24 _ _ t315 _ _ t318 _ _ t293 _ _ t296 true _ ?side1 ?side2 ?side3 ?side4 ?side5 ?side6 ?side7 ?side8 A129.out).mono ?_); (case side1 => exact cU (Kd.R_reads' HO_323000.out).2.2); (case side2 => exact (Kd.R_reads' HO_323000.out).2.1); (case side3 => exact cU (Kd.R_reads' HO_323001.out).2.2); (case side4 => exact (Kd.R_reads' HO_323001.out).2.1); (case side5 => exact cU (Kd.R_reads' HO_301000.out).2.2); (case side6 => exact (Kd.R_reads' HO_301000.out).2.1); (case side7 => exact cU (Kd.R_reads' HO_301001.out).2.2); (case side8 => exact (Kd.R_reads' HO_301001.out).2.1); rintro e w142 ⟨rfl, hb⟩; replace HO_301000 := Aside0.mk (Kd.R_below (RU HO_301000.out) hb); replace HO_301001 := Aside0.mk (Kd.R_below (RU HO_301001.out) hb); replace HO_308000 := Aside0.mk (Kd.R_below (RU HO_308000.out) hb); replace HO_308001 := Aside0.mk (Kd.R_below (RU HO_308001.out) hb); replace HO_315000 := Aside0.mk (Kd.R_below (RU HO_315000.out) hb); replace HO_315001 := Aside0.mk (Kd.R_below (RU HO_315001.out) hb); replace HO_323000 := Aside0.mk (Kd.R_below (RU HO_323000.out) hb); replace HO_323001 := Aside0.mk (Kd.R_below (RU HO_323001.out) hb); replace HO326 := Aside0.mk (Kd.R_below (RU HO326.out) hb); replace HO329 := Aside0.mk (Kd.R_below (RU HO329.out) hb); replace HO333 := Aside0.mk (Kd.R_below (RU HO333.out) hb); replace HO336 := Aside0.mk (Kd.R_below (RU HO336.out) hb); replace BK277 := Aside0.mk (kB BK277.out hb); replace BK278 := Aside0.mk (kB BK278.out hb); replace BK300 := Aside0.mk (kB BK300.out hb); replace BK307 := Aside0.mk (kB BK307.out hb); replace BK314 := Aside0.mk (kB BK314.out hb); replace BK322 := Aside0.mk (kB BK322.out hb); replace HB := Aside0.mk (below_step (bS6 HB.out GE277.out GE278.out GE300.out GE307.out GE314.out GE322.out) hb); (try clear hb); (try clear hb2); (try clear hk); (try clear hi)))
           go_meet
           case rel => exact ⟨_, ((t321 != t299)), (by first | rfl | (simp; done) | (simp [*]; done)), H', ⟨by have := HJ24.out; first | omega | exact Nat.le_refl _⟩, ⟨by refine RU ?_; exact Kd.R_mono HO_301000.out (fun _ hk => ⟨hk.1, ⟨hk.2.1, ⟨hk.2.2.1, ⟨hk.2.2.2.1, ⟨hk.2.2.2.2.1, ⟨hk.2.2.2.2.2.1, hk.2.2.2.2.2.2.1⟩⟩⟩⟩⟩⟩)⟩, ⟨by refine RU ?_; exact Kd.R_mono HO_301001.out (fun _ hk => ⟨hk.1, ⟨hk.2.1, ⟨hk.2.2.1, ⟨hk.2.2.2.1, ⟨hk.2.2.2.2.1, ⟨hk.2.2.2.2.2.1, hk.2.2.2.2.2.2.1⟩⟩⟩⟩⟩⟩)⟩, ⟨by refine RU ?_; exact Kd.R_mono HO_308000.out (fun _ hk => ⟨hk.1, ⟨hk.2.1, ⟨hk.2.2.1, ⟨hk.2.2.2.1, ⟨hk.2.2.2.2.1, ⟨hk.2.2.2.2.2.1, hk.2.2.2.2.2.2.1⟩⟩⟩⟩⟩⟩)⟩, ⟨by refine RU ?_; exact Kd.R_mono HO_308001.out (fun _ hk => ⟨hk.1, ⟨hk.2.1, ⟨hk.2.2.1, ⟨hk.2.2.2.1, ⟨hk.2.2.2.2.1, ⟨hk.2.2.2.2.2.1, hk.2.2.2.2.2.2.1⟩⟩⟩⟩⟩⟩)⟩, ⟨by refine RU ?_; exact Kd.R_mono HO_315000.out (fun _ hk => ⟨hk.1, ⟨hk.2.1, ⟨hk.2.2.1, ⟨hk.2.2.2.1, ⟨hk.2.2.2.2.1, ⟨hk.2.2.2.2.2.1, hk.2.2.2.2.2.2.1⟩⟩⟩⟩⟩⟩)⟩, ⟨by refine RU ?_; exact Kd.R_mono HO_315001.out (fun _ hk => ⟨hk.1, ⟨hk.2.1, ⟨hk.2.2.1, ⟨hk.2.2.2.1, ⟨hk.2.2.2.2.1, ⟨hk.2.2.2.2.2.1, hk.2.2.2.2.2.2.1⟩⟩⟩⟩⟩⟩)⟩, ⟨by refine RU ?_; exact Kd.R_mono HO_323000.out (fun _ hk => ⟨hk.1, ⟨hk.2.1, ⟨hk.2.2.1, ⟨hk.2.2.2.1, ⟨hk.2.2.2.2.1, ⟨hk.2.2.2.2.2.1, hk.2.2.2.2.2.2.1⟩⟩⟩⟩⟩⟩)⟩, ⟨by refine RU ?_; exact Kd.R_mono HO_323001.out (fun _ hk => ⟨hk.1, ⟨hk.2.1, ⟨hk.2.2.1, ⟨hk.2.2.2.1, ⟨hk.2.2.2.2.1, ⟨hk.2.2.2.2.2.1, hk.2.2.2.2.2.2.1⟩⟩⟩⟩⟩⟩)⟩, ⟨by refine kU ?_; exact BK277.out⟩, ⟨by refine kU ?_; exact BK278.out⟩, ⟨by refine kU ?_; exact BK300.out⟩, ⟨by refine kU ?_; exact BK307.out⟩, ⟨by refine kU ?_; exact BK314.out⟩, ⟨by refine kU ?_; exact BK322.out⟩, ⟨by exact bS6 HB.out GE277.out GE278.out GE300.out GE307.out GE314.out GE322.out⟩⟩
          ·
           replace c130 := Bool.eq_false_iff.mpr c130
           subst c130
           have H1 : (laws_FnExactPick.j1 kj24 t299 true l0_0 l0_1 l1_0 l1_1 t293 t296 t315 t318) = some r := by rw [if_neg (show ¬ (false = true) by decide)] at H; exact H
           clear H
           have H := H1
           clear H1
           have hz_ : ∀ kz, laws_FnExactPick.j1 kz t299 true l0_0 l0_1 l1_0 l1_1 t293 t296 t315 t318 = some r → r = false := by intro kz hz; cases kz with | zero => exact absurd hz (by simp [laws_FnExactPick.j1]) | succ kz => simp only [laws_FnExactPick.j1] at hz; first | (rw [if_pos rfl] at hz; exact (Option.some.inj hz).symm) | (simp at hz; exact hz.symm) | (simp at hz; exact hz)
           exact absurd (HT.out.symm.trans (hz_ _ H)) (by decide)
        case rest =>
         clear HC104
         try clear c1
         try clear p2
         try clear c7
         try clear c9
         try clear c10
         try clear c11
         try clear c12
         try clear c13
         try clear c14
         try clear c98
         try clear c101
         try clear c115
         try clear c116
         try clear c117
         try clear c118
         try clear c119
         try clear c122
         try clear c123
         try clear c124
         try clear c125
         try clear c128
         try clear c128b0
         try clear c130
         try clear c131
         try clear c132
         try clear c133
         try clear c134
         try clear c135
         try clear c137
         try clear c138
         try clear c139
         try clear c140
         try clear hcz120_0
         try clear hcz120_1
         try clear hcz126_0
         try clear hcz126_1
         try clear hcz136_0
         try clear hcz136_1
         try clear hcz141_0
         try clear hcz141_1
         try clear hfz120_0
         try clear hfz120_1
         try clear hfz126_0
         try clear hfz126_1
         try clear hfz136_0
         try clear hfz136_1
         try clear hfz141_0
         try clear hfz141_1
         obtain ⟨kq, x82_103, rfl, HA, HJ103, HO_301000, HO_301001, HO_308000, HO_308001, HO_315000, HO_315001, HO_323000, HO_323001, BK277, BK278, BK300, BK307, BK314, BK322, HB⟩ := hcut
         have hl308000_103 := (Kd.R_reads' HO_308000.out).1
         rw [hl308000_103] at HO_308000
         (try simp only [hl308000_103])
         (try simp only [hl308000_103] at BK277)
         (try simp only [hl308000_103] at BK278)
         (try simp only [hl308000_103] at BK300)
         (try simp only [hl308000_103] at BK307)
         (try simp only [hl308000_103] at BK314)
         (try simp only [hl308000_103] at BK322)
         (try simp only [hl308000_103] at HO_301000)
         (try simp only [hl308000_103] at HO_301001)
         (try simp only [hl308000_103] at HO_308001)
         (try simp only [hl308000_103] at HO_315000)
         (try simp only [hl308000_103] at HO_315001)
         (try simp only [hl308000_103] at HO_323000)
         (try simp only [hl308000_103] at HO_323001)
         have hl308001_103 := (Kd.R_reads' HO_308001.out).1
         rw [hl308001_103] at HO_308001
         (try simp only [hl308001_103])
         (try simp only [hl308001_103] at BK277)
         (try simp only [hl308001_103] at BK278)
         (try simp only [hl308001_103] at BK300)
         (try simp only [hl308001_103] at BK307)
         (try simp only [hl308001_103] at BK314)
         (try simp only [hl308001_103] at BK322)
         (try simp only [hl308001_103] at HO_301000)
         (try simp only [hl308001_103] at HO_301001)
         (try simp only [hl308001_103] at HO_308000)
         (try simp only [hl308001_103] at HO_315000)
         (try simp only [hl308001_103] at HO_315001)
         (try simp only [hl308001_103] at HO_323000)
         (try simp only [hl308001_103] at HO_323001)
         have hl315000_103 := (Kd.R_reads' HO_315000.out).1
         rw [hl315000_103] at HO_315000
         (try simp only [hl315000_103])
         (try simp only [hl315000_103] at BK277)
         (try simp only [hl315000_103] at BK278)
         (try simp only [hl315000_103] at BK300)
         (try simp only [hl315000_103] at BK307)
         (try simp only [hl315000_103] at BK314)
         (try simp only [hl315000_103] at BK322)
         (try simp only [hl315000_103] at HO_301000)
         (try simp only [hl315000_103] at HO_301001)
         (try simp only [hl315000_103] at HO_308000)
         (try simp only [hl315000_103] at HO_308001)
         (try simp only [hl315000_103] at HO_315001)
         (try simp only [hl315000_103] at HO_323000)
         (try simp only [hl315000_103] at HO_323001)
         have hl315001_103 := (Kd.R_reads' HO_315001.out).1
         rw [hl315001_103] at HO_315001
         (try simp only [hl315001_103])
         (try simp only [hl315001_103] at BK277)
         (try simp only [hl315001_103] at BK278)
         (try simp only [hl315001_103] at BK300)
         (try simp only [hl315001_103] at BK307)
         (try simp only [hl315001_103] at BK314)
         (try simp only [hl315001_103] at BK322)
         (try simp only [hl315001_103] at HO_301000)
         (try simp only [hl315001_103] at HO_301001)
         (try simp only [hl315001_103] at HO_308000)
         (try simp only [hl315001_103] at HO_308001)
         (try simp only [hl315001_103] at HO_315000)
         (try simp only [hl315001_103] at HO_323000)
         (try simp only [hl315001_103] at HO_323001)
         cases kq with
         | zero => exact absurd HA.out (by simp [laws_FnExactPick.j1])
         | succ kj103 =>
          have H := HA.out
          clear HA
          simp only [laws_FnExactPick.j1] at H
          by_cases c143 : x82_103 = true
          ·
           subst c143
           have H1 : (some false) = some r := by rw [if_pos rfl] at H; exact H
           clear H
           have H := H1
           clear H1
           obtain rfl := Option.some.inj H
           exact absurd HT.out (by decide)
          ·
           replace c143 := Bool.eq_false_iff.mpr c143
           subst c143
           have H1 : ((laws_markArray.f kj103 t315 t318 1).bind fun bt345 => ((laws_heldArray.f kj103 bt345.2.1 bt345.2.2 1).bind fun t348 => (if t348 < 0 then (some false) else (if t348 = bt345.1 then ((laws_toArray.f kj103 l0_0 l0_1).bind fun bt349 => ((laws_toArray.f kj103 l1_0 l1_1).bind fun bt355 => ((impl_Pick.f kj103 bt349.1 bt349.2 bt355.1 bt355.2).bind fun bt361 => ((laws_eqArray.f kj103 bt361.1 bt361.2.1 t293 t296).bind fun t369 => (if t369 = true then (laws_FnExactPick.j2 kj103 bt345.1 (bt361.2.2 != t299) bt345.2.1 bt345.2.2) else (laws_FnExactPick.j2 kj103 bt345.1 true bt345.2.1 bt345.2.2)))))) else (some false))))) = some r := by rw [if_neg (show ¬ (false = true) by decide)] at H; exact H
           clear H
           have H := H1
           clear H1
           replace H := Option.bind_eq_some_iff.mp H
           obtain ⟨⟨t345, t346, t347⟩, A1440, H⟩ := H
           replace H : ((laws_heldArray.f kj103 t346 t347 1).bind fun t348 => (if t348 < 0 then (some false) else (if t348 = t345 then ((laws_toArray.f kj103 l0_0 l0_1).bind fun bt349 => ((laws_toArray.f kj103 l1_0 l1_1).bind fun bt355 => ((impl_Pick.f kj103 bt349.1 bt349.2 bt355.1 bt355.2).bind fun bt361 => ((laws_eqArray.f kj103 bt361.1 bt361.2.1 t293 t296).bind fun t369 => (if t369 = true then (laws_FnExactPick.j2 kj103 t345 (bt361.2.2 != t299) t346 t347) else (laws_FnExactPick.j2 kj103 t345 true t346 t347)))))) else (some false)))) = some r := H
           have A144 := Aside0.mk A1440
           clear A1440
           replace H := Option.bind_eq_some_iff.mp H
           obtain ⟨t348, A1450, H⟩ := H
           replace H : (if t348 < 0 then (some false) else (if t348 = t345 then ((laws_toArray.f kj103 l0_0 l0_1).bind fun bt349 => ((laws_toArray.f kj103 l1_0 l1_1).bind fun bt355 => ((impl_Pick.f kj103 bt349.1 bt349.2 bt355.1 bt355.2).bind fun bt361 => ((laws_eqArray.f kj103 bt361.1 bt361.2.1 t293 t296).bind fun t369 => (if t369 = true then (laws_FnExactPick.j2 kj103 t345 (bt361.2.2 != t299) t346 t347) else (laws_FnExactPick.j2 kj103 t345 true t346 t347)))))) else (some false))) = some r := H
           have A145 := Aside0.mk A1450
           clear A1450
           by_cases c146 : t348 < 0
           ·
            rw [if_pos c146] at H
            have c146b0 : decide (t348 < 0) = true := decide_eq_true c146
            clear c146
            obtain rfl := Option.some.inj H
            exact absurd HT.out (by decide)
           ·
            rw [if_neg c146] at H
            have c146b0 : decide (t348 < 0) = false := decide_eq_false c146
            clear c146
            by_cases c147 : t348 = t345
            ·
             rw [if_pos c147] at H
             have c147b0 : (t348 == t345) = true := beq_iff_eq.mpr c147
             have c147b1 : (t348 != t345) = false := bne_eq_false_iff_eq.mpr c147
             clear c147
             replace H := Option.bind_eq_some_iff.mp H
             obtain ⟨⟨t349, t352⟩, A1480, H⟩ := H
             replace H : ((laws_toArray.f kj103 l1_0 l1_1).bind fun bt355 => ((impl_Pick.f kj103 t349 t352 bt355.1 bt355.2).bind fun bt361 => ((laws_eqArray.f kj103 bt361.1 bt361.2.1 t293 t296).bind fun t369 => (if t369 = true then (laws_FnExactPick.j2 kj103 t345 (bt361.2.2 != t299) t346 t347) else (laws_FnExactPick.j2 kj103 t345 true t346 t347))))) = some r := H
             have A148 := Aside0.mk A1480
             clear A1480
             replace H := Option.bind_eq_some_iff.mp H
             obtain ⟨⟨t355, t358⟩, A1490, H⟩ := H
             replace H : ((impl_Pick.f kj103 t349 t352 t355 t358).bind fun bt361 => ((laws_eqArray.f kj103 bt361.1 bt361.2.1 t293 t296).bind fun t369 => (if t369 = true then (laws_FnExactPick.j2 kj103 t345 (bt361.2.2 != t299) t346 t347) else (laws_FnExactPick.j2 kj103 t345 true t346 t347)))) = some r := H
             have A149 := Aside0.mk A1490
             clear A1490
             replace H := Option.bind_eq_some_iff.mp H
             obtain ⟨⟨t361, t364, t367⟩, A1500, H⟩ := H
             replace H : ((laws_eqArray.f kj103 t361 t364 t293 t296).bind fun t369 => (if t369 = true then (laws_FnExactPick.j2 kj103 t345 (t367 != t299) t346 t347) else (laws_FnExactPick.j2 kj103 t345 true t346 t347))) = some r := H
             have A150 := Aside0.mk A1500
             clear A1500
             have HC151 := Aside0.mk H
             clear H
             have hnb152 := NB322_277.out
             have hnc152 := NB277_322.out
             have hnb153 := NB322_278.out
             have hnc153 := NB278_322.out
             have hnb154 := NB322_300.out
             have hnc154 := NB300_322.out
             have hnb155 := NB322_307.out
             have hnc155 := NB307_322.out
             have hnb156 := NB322_314.out
             have hnc156 := NB314_322.out
             have hcz157_0 : wc.cell? ⟨gb322, 0, none⟩ = some (.slice Ao73 t315.length co73) := (blk_cell BK322.out 0).trans rfl
             have hcz157_1 : wc.cell? ⟨gb322, 1, none⟩ = some (.slice Ao80 t318.length co80) := (blk_cell BK322.out 1).trans rfl
             have hfz157_0 := blk_frozen BK322.out 0
             have hfz157_1 := blk_frozen BK322.out 1
             try go_wp2_with (first | ((with_reducible refine gate_callee (f := 11) rfl ?_); refine goesL_ (some 85) rfl rfl Try.func11 (by kernel_rfl) rfl #[.agg #[.slice Ao73 t315.length co73, .slice Ao80 t318.length co80], .int .i64 1] rfl lU ?_; (with_reducible refine (laws_markArray.calls kj103 (fun k_ => some k_ = (.slice Ao73 t315.length co73 : Value).ownBlock) (.slice Ao73 t315.length co73) t315 (fun k_ => some k_ = (.slice Ao80 t318.length co80 : Value).ownBlock) (.slice Ao80 t318.length co80) t318 1 t345 t346 t347 w _ ?side1 ?side2 ?side3 ?side4 ?side5 A144.out).mono ?_); (case side1 => exact bS6 HB.out GE277.out GE278.out GE300.out GE307.out GE314.out GE322.out); (case side2 => exact Kd.R_tight rfl HO_323000.out); (case side3 => exact fun k_ e_ => (HO_323000.out.1 k_ e_.symm).2.2.2.2.2.2); (case side4 => exact Kd.R_tight rfl HO_323001.out); (case side5 => exact fun k_ e_ => (HO_323001.out.1 k_ e_.symm).2.2.2.2.2.2); rintro e w158 ⟨rfl, hy0, hy1, hb, hkp⟩; refine ⟨_, rfl, ?_⟩; replace HO_301000 := Aside0.mk (Kd.R_mono (ok' := fun k_ => some k_ ≠ (.slice Ao45 t296.length co45 : Value).ownBlock ∧ some k_ ≠ (.slice Ao51 t339.length co51 : Value).ownBlock ∧ some k_ ≠ (.slice Ao56 t340.length co56 : Value).ownBlock ∧ some k_ ≠ (.slice Ao61 t342.length co61 : Value).ownBlock ∧ some k_ ≠ (.slice Ao67 t343.length co67 : Value).ownBlock ∧ some k_ ≠ (.slice Ao73 t315.length co73 : Value).ownBlock ∧ some k_ ≠ (.slice Ao80 t318.length co80 : Value).ownBlock) (Kd.R_keptB (HO_301000.out) hkp (fun k_ hk_ hs_ => Or.elim hs_ (fun e_ => (hk_.2.2.2.2.2.1) e_) (fun e_ => (hk_.2.2.2.2.2.2) e_))) (fun k_ hk_ => ⟨hk_.1.1, hk_.1.2.1, hk_.1.2.2.1, hk_.1.2.2.2.1, hk_.1.2.2.2.2.1, hk_.1.2.2.2.2.2.1, hk_.1.2.2.2.2.2.2⟩)); replace HO_301001 := Aside0.mk (Kd.R_mono (ok' := fun k_ => some k_ ≠ (.slice Ao43 t293.length co43 : Value).ownBlock ∧ some k_ ≠ (.slice Ao51 t339.length co51 : Value).ownBlock ∧ some k_ ≠ (.slice Ao56 t340.length co56 : Value).ownBlock ∧ some k_ ≠ (.slice Ao61 t342.length co61 : Value).ownBlock ∧ some k_ ≠ (.slice Ao67 t343.length co67 : Value).ownBlock ∧ some k_ ≠ (.slice Ao73 t315.length co73 : Value).ownBlock ∧ some k_ ≠ (.slice Ao80 t318.length co80 : Value).ownBlock) (Kd.R_keptB (HO_301001.out) hkp (fun k_ hk_ hs_ => Or.elim hs_ (fun e_ => (hk_.2.2.2.2.2.1) e_) (fun e_ => (hk_.2.2.2.2.2.2) e_))) (fun k_ hk_ => ⟨hk_.1.1, hk_.1.2.1, hk_.1.2.2.1, hk_.1.2.2.2.1, hk_.1.2.2.2.2.1, hk_.1.2.2.2.2.2.1, hk_.1.2.2.2.2.2.2⟩)); replace HO_308000 := Aside0.mk (Kd.R_mono (ok' := fun k_ => some k_ ≠ (.slice Ao43 t293.length co43 : Value).ownBlock ∧ some k_ ≠ (.slice Ao45 t296.length co45 : Value).ownBlock ∧ some k_ ≠ (.slice Ao56 t340.length co56 : Value).ownBlock ∧ some k_ ≠ (.slice Ao61 t342.length co61 : Value).ownBlock ∧ some k_ ≠ (.slice Ao67 t343.length co67 : Value).ownBlock ∧ some k_ ≠ (.slice Ao73 t315.length co73 : Value).ownBlock ∧ some k_ ≠ (.slice Ao80 t318.length co80 : Value).ownBlock) (Kd.R_keptB (HO_308000.out) hkp (fun k_ hk_ hs_ => Or.elim hs_ (fun e_ => (hk_.2.2.2.2.2.1) e_) (fun e_ => (hk_.2.2.2.2.2.2) e_))) (fun k_ hk_ => ⟨hk_.1.1, hk_.1.2.1, hk_.1.2.2.1, hk_.1.2.2.2.1, hk_.1.2.2.2.2.1, hk_.1.2.2.2.2.2.1, hk_.1.2.2.2.2.2.2⟩)); replace HO_308001 := Aside0.mk (Kd.R_mono (ok' := fun k_ => some k_ ≠ (.slice Ao43 t293.length co43 : Value).ownBlock ∧ some k_ ≠ (.slice Ao45 t296.length co45 : Value).ownBlock ∧ some k_ ≠ (.slice Ao51 t339.length co51 : Value).ownBlock ∧ some k_ ≠ (.slice Ao61 t342.length co61 : Value).ownBlock ∧ some k_ ≠ (.slice Ao67 t343.length co67 : Value).ownBlock ∧ some k_ ≠ (.slice Ao73 t315.length co73 : Value).ownBlock ∧ some k_ ≠ (.slice Ao80 t318.length co80 : Value).ownBlock) (Kd.R_keptB (HO_308001.out) hkp (fun k_ hk_ hs_ => Or.elim hs_ (fun e_ => (hk_.2.2.2.2.2.1) e_) (fun e_ => (hk_.2.2.2.2.2.2) e_))) (fun k_ hk_ => ⟨hk_.1.1, hk_.1.2.1, hk_.1.2.2.1, hk_.1.2.2.2.1, hk_.1.2.2.2.2.1, hk_.1.2.2.2.2.2.1, hk_.1.2.2.2.2.2.2⟩)); replace HO_315000 := Aside0.mk (Kd.R_mono (ok' := fun k_ => some k_ ≠ (.slice Ao43 t293.length co43 : Value).ownBlock ∧ some k_ ≠ (.slice Ao45 t296.length co45 : Value).ownBlock ∧ some k_ ≠ (.slice Ao51 t339.length co51 : Value).ownBlock ∧ some k_ ≠ (.slice Ao56 t340.length co56 : Value).ownBlock ∧ some k_ ≠ (.slice Ao67 t343.length co67 : Value).ownBlock ∧ some k_ ≠ (.slice Ao73 t315.length co73 : Value).ownBlock ∧ some k_ ≠ (.slice Ao80 t318.length co80 : Value).ownBlock) (Kd.R_keptB (HO_315000.out) hkp (fun k_ hk_ hs_ => Or.elim hs_ (fun e_ => (hk_.2.2.2.2.2.1) e_) (fun e_ => (hk_.2.2.2.2.2.2) e_))) (fun k_ hk_ => ⟨hk_.1.1, hk_.1.2.1, hk_.1.2.2.1, hk_.1.2.2.2.1, hk_.1.2.2.2.2.1, hk_.1.2.2.2.2.2.1, hk_.1.2.2.2.2.2.2⟩)); replace HO_315001 := Aside0.mk (Kd.R_mono (ok' := fun k_ => some k_ ≠ (.slice Ao43 t293.length co43 : Value).ownBlock ∧ some k_ ≠ (.slice Ao45 t296.length co45 : Value).ownBlock ∧ some k_ ≠ (.slice Ao51 t339.length co51 : Value).ownBlock ∧ some k_ ≠ (.slice Ao56 t340.length co56 : Value).ownBlock ∧ some k_ ≠ (.slice Ao61 t342.length co61 : Value).ownBlock ∧ some k_ ≠ (.slice Ao73 t315.length co73 : Value).ownBlock ∧ some k_ ≠ (.slice Ao80 t318.length co80 : Value).ownBlock) (Kd.R_keptB (HO_315001.out) hkp (fun k_ hk_ hs_ => Or.elim hs_ (fun e_ => (hk_.2.2.2.2.2.1) e_) (fun e_ => (hk_.2.2.2.2.2.2) e_))) (fun k_ hk_ => ⟨hk_.1.1, hk_.1.2.1, hk_.1.2.2.1, hk_.1.2.2.2.1, hk_.1.2.2.2.2.1, hk_.1.2.2.2.2.2.1, hk_.1.2.2.2.2.2.2⟩)); replace BK277 := Aside0.mk (blk_kept (kU BK277.out) hkp (fun hs_ => Or.elim hs_ (fun e_ => (fun e_ => (Kd.R_ne HO_323000.out BK277.out (by decide)) e_) e_) (fun e_ => (fun e_ => (Kd.R_ne HO_323001.out BK277.out (by decide)) e_) e_))); replace BK278 := Aside0.mk (blk_kept (kU BK278.out) hkp (fun hs_ => Or.elim hs_ (fun e_ => (fun e_ => (Kd.R_ne HO_323000.out BK278.out (by decide)) e_) e_) (fun e_ => (fun e_ => (Kd.R_ne HO_323001.out BK278.out (by decide)) e_) e_))); replace BK300 := Aside0.mk (blk_kept (kU BK300.out) hkp (fun hs_ => Or.elim hs_ (fun e_ => (fun e_ => (Kd.R_ne HO_323000.out BK300.out (by decide)) e_) e_) (fun e_ => (fun e_ => (Kd.R_ne HO_323001.out BK300.out (by decide)) e_) e_))); replace BK307 := Aside0.mk (blk_kept (kU BK307.out) hkp (fun hs_ => Or.elim hs_ (fun e_ => (fun e_ => (Kd.R_ne HO_323000.out BK307.out (by decide)) e_) e_) (fun e_ => (fun e_ => (Kd.R_ne HO_323001.out BK307.out (by decide)) e_) e_))); replace BK314 := Aside0.mk (blk_kept (kU BK314.out) hkp (fun hs_ => Or.elim hs_ (fun e_ => (fun e_ => (Kd.R_ne HO_323000.out BK314.out (by decide)) e_) e_) (fun e_ => (fun e_ => (Kd.R_ne HO_323001.out BK314.out (by decide)) e_) e_))); replace BK322 := Aside0.mk (blk_kept (kU BK322.out) hkp (fun hs_ => Or.elim hs_ (fun e_ => (fun e_ => (Kd.R_ne HO_323000.out BK322.out (by decide)) e_) e_) (fun e_ => (fun e_ => (Kd.R_ne HO_323001.out BK322.out (by decide)) e_) e_))); replace HO_323000 := Aside0.mk (Kd.R_reok rfl hy0 (fun k_ e_ => HO_323000.out.1 k_ e_)); replace HO_323001 := Aside0.mk (Kd.R_reok rfl hy1 (fun k_ e_ => HO_323001.out.1 k_ e_)); replace HB := Aside0.mk (hb); (try clear hb); (try clear hkp); (try clear hy0); (try clear hy1); have hcz159_0 : w158.cell? ⟨gb322, 0, none⟩ = some (.slice Ao73 t315.length co73) := (blk_cell BK322.out 0).trans rfl; have hcz159_1 : w158.cell? ⟨gb322, 1, none⟩ = some (.slice Ao80 t318.length co80) := (blk_cell BK322.out 1).trans rfl; have hfz159_0 := blk_frozen BK322.out 0; have hfz159_1 := blk_frozen BK322.out 1) | ((with_reducible refine gate_callee (f := 16) rfl ?_); refine goesL_ (some 88) rfl rfl Try.func16 (by kernel_rfl) rfl #[.agg #[.slice Ao73 t346.length co73, .slice Ao80 t347.length co80], .int .i64 1] rfl (by (try simp only [List.map_toArray, List.map_cons, List.map_nil]); first | done | (rw [show t346.length = t315.length from (Kd.R_reads' HO_323000.out).1.symm, show t347.length = t318.length from (Kd.R_reads' HO_323001.out).1.symm] <;> rfl) | rfl | (simp only [List.length_drop, List.length_take]; rfl)) ?_; (with_reducible refine (laws_heldArray.calls kj103 _ _ t346 _ _ t347 1 t348 _ ?side1 ?side2 ?side3 ?side4 A145.out).mono ?_); (case side1 => exact cU (Kd.R_reads' HO_323000.out).2.2); (case side2 => rw [show t346.length = t315.length from (Kd.R_reads' HO_323000.out).1.symm]; exact (Kd.R_reads' HO_323000.out).2.1); (case side3 => exact cU (Kd.R_reads' HO_323001.out).2.2); (case side4 => rw [show t347.length = t318.length from (Kd.R_reads' HO_323001.out).1.symm]; exact (Kd.R_reads' HO_323001.out).2.1); rintro e w160 ⟨rfl, hb⟩; refine ⟨_, rfl, ?_⟩; replace HO_301000 := Aside0.mk (Kd.R_below (RU HO_301000.out) hb); replace HO_301001 := Aside0.mk (Kd.R_below (RU HO_301001.out) hb); replace HO_308000 := Aside0.mk (Kd.R_below (RU HO_308000.out) hb); replace HO_308001 := Aside0.mk (Kd.R_below (RU HO_308001.out) hb); replace HO_315000 := Aside0.mk (Kd.R_below (RU HO_315000.out) hb); replace HO_315001 := Aside0.mk (Kd.R_below (RU HO_315001.out) hb); replace HO_323000 := Aside0.mk (Kd.R_below (RU HO_323000.out) hb); replace HO_323001 := Aside0.mk (Kd.R_below (RU HO_323001.out) hb); replace BK277 := Aside0.mk (kB BK277.out hb); replace BK278 := Aside0.mk (kB BK278.out hb); replace BK300 := Aside0.mk (kB BK300.out hb); replace BK307 := Aside0.mk (kB BK307.out hb); replace BK314 := Aside0.mk (kB BK314.out hb); replace BK322 := Aside0.mk (kB BK322.out hb); replace HB := Aside0.mk (below_step (bS6 HB.out GE277.out GE278.out GE300.out GE307.out GE314.out GE322.out) hb); (try clear hb); (try clear hb2); (try clear hk); (try clear hi)))
             replace HO_301000 := Aside0.mk (Kd.R_drew HO_301000.out)
             replace HO_301001 := Aside0.mk (Kd.R_drew HO_301001.out)
             replace HO_308000 := Aside0.mk (Kd.R_drew HO_308000.out)
             replace HO_308001 := Aside0.mk (Kd.R_drew HO_308001.out)
             replace HO_315000 := Aside0.mk (Kd.R_drew HO_315000.out)
             replace HO_315001 := Aside0.mk (Kd.R_drew HO_315001.out)
             replace HO_323000 := Aside0.mk (Kd.R_drew HO_323000.out)
             replace HO_323001 := Aside0.mk (Kd.R_drew HO_323001.out)
             replace BK277 := Aside0.mk (blk_drew BK277.out)
             replace BK278 := Aside0.mk (blk_drew BK278.out)
             replace BK300 := Aside0.mk (blk_drew BK300.out)
             replace BK307 := Aside0.mk (blk_drew BK307.out)
             replace BK314 := Aside0.mk (blk_drew BK314.out)
             replace BK322 := Aside0.mk (blk_drew BK322.out)
             replace HB := Aside0.mk (below_drew1 HB.out)
             refine start_ (n := 11) (S := fun w' => w'.cell? ⟨gb277, 0, none⟩ = some (.slice A0_0 l0_0.length c0_0) ∧ w'.cell? ⟨gb277, 1, none⟩ = some (.slice A0_1 l0_1.length c0_1) ∧ w'.cell? ⟨gb278, 0, none⟩ = some (.slice A1_0 l1_0.length c1_0) ∧ w'.cell? ⟨gb278, 1, none⟩ = some (.slice A1_1 l1_1.length c1_1)) (ds := []) #[false, false, false, false, false, false, false, false, false, false, false] (by kernel_rfl) rfl rfl ⟨(blk_cell BK277.out 0).trans rfl, (blk_cell BK277.out 1).trans rfl, (blk_cell BK278.out 0).trans rfl, (blk_cell BK278.out 1).trans rfl⟩ (fun hHeld => ?_); refine with_tabW laws_FnExactPick.tab31 laws_FnExactPick.bits31 (fun HT_ HW_ => ?_)
             generalize w160.drew = w161 at HO_301000 HO_301001 HO_308000 HO_308001 HO_315000 HO_315001 HO_323000 HO_323001 BK277 BK278 BK300 BK307 BK314 BK322 HB hHeld ⊢
             refine take_ (i := 0) (N := some 95) (v := ?_) (a' := ?_) #[true, false, false, false, false, false, false, false, false, false, false] rfl rfl (take_ofW HT_.out HW_.out (by kernel_rfl)) (fun _ _ _ h => h) (Or.inl ⟨by rfl, ?_⟩) hHeld ?_ ?_
             rotate_left
             ·
              rintro w' ⟨s0, s1, s2, s3⟩
              go_simp
              with_reducible rfl
             rotate_left
             ·
              simp only [Act.put, List.setIfInBounds_toArray, List.set_cons_zero, List.set_cons_succ, i64_w, i32_w]
              rfl
             refine take_ (i := 2) (N := some 97) (v := ?_) (a' := ?_) #[true, false, true, false, false, false, false, false, false, false, false] rfl rfl (take_ofW HT_.out HW_.out (by kernel_rfl)) (fun _ _ _ h => h) (Or.inl ⟨by rfl, ?_⟩) hHeld ?_ ?_
             rotate_left
             ·
              rintro w' ⟨s0, s1, s2, s3⟩
              go_simp
              with_reducible rfl
             rotate_left
             ·
              simp only [Act.put, List.setIfInBounds_toArray, List.set_cons_zero, List.set_cons_succ, i64_w, i32_w]
              rfl
             rename_i h1_52 h1_75 h1_76 h1_78 h1_92 h1_109 h1_164 h1_167 h1_170 h1_173 h1_176 h1_179 h1_182 h1_209 h1_210 h1_211 h1_212 h1_213 h1_214 h1_215 h1_216 h1_217 h1_218 h1_219 h1_220 h1_221 h1_222 h1_223 h1_224 h1_225 h1_226 h1_227 h1_228 h1_229 h1_230 h1_231 h1_232 h1_233 h1_234 h1_235 h1_236 h1_237 h1_238 h1_239 h1_240 h1_241 h1_242 h1_243 h1_244 h1_245 h1_246 h1_247 h1_248 h1_249 h1_250 h1_251 h1_252 h1_253 h1_254 h1_255 h1_256 h1_257 h1_258 h1_259 h1_260 h1_261 h1_262 h1_263 h1_264 h1_265 h1_266 h1_267 h1_268 h1_269 h1_270 h1_271 h1_272 h1_273 h1_275 h1_276 h1_277 h1_278 h1_279 h1_280 h1_281 h1_282 h1_283 h1_284 h1_285 h1_286 h1_287 h1_288 h1_289 h1_290 h1_291 h1_292 h1_293 h1_294 h1_295 h1_296 h1_297 h1_298 h1_299 h1_300 h1_301 h1_302 h1_303 h1_304 h1_305 h1_306 h1_307 h1_308 h1_309 h1_310 h1_330 h1_336 h1_338 h1_340 h1_346 h1_348 h1_369 h1_370 h1_371 h1_372 h1_373 h1_374 h1_375 h1_376 h1_377 h1_378 h1_379 h1_380 h1_381 h1_382 h1_387 h1_536 h1_537
             revert k A0_0 c0_0 l0_0 A0_1 c0_1 l0_1 A1_0 c1_0 l1_0 A1_1 c1_1 l1_1 r w HT hu24 hu28 HR0_0 HC0_0 HR0_1 HC0_1 HR1_0 HC1_0 HR1_1 HC1_1 t279 A3 c4b0 t280 A10 c11b0 t281 t284 A19 t287 t290 A20 t293 t296 t299 A21 t301 t304 A22 t308 t311 A23 t315 t318 t321 A24 h1_52 gb277 w26 GW277 GE277 gb278 w27 GW278 GE278 NB277_278 NB278_277 hnb28 hnc28 hcz29_0 hcz29_1 hfz29_0 hfz29_1 w30 hcz31_0 hcz31_1 hfz31_0 hfz31_1 w32 h1_75 h1_76 w33 h1_78 v282 v285 v288 v291 gb300 w42 hS_ GW300 GE300 NB277_300 NB300_277 NB278_300 NB300_278 h1_92 Ao43 co43 Ao45 co45 hs44 hfs44 hns44_0 hns44_1 hms44_0 hms44_1 hs46 hfs46 hns46_0 hns46_1 hms46_0 hms46_1 h1_109 hnb47 hnc47 w49 gb307 w50 GW307 GE307 NB277_307 NB307_277 NB278_307 NB307_278 NB300_307 NB307_300 Ao51 co51 hnb52 hnc52 hnb53 hnc53 hnb54 hnc54 Ao56 co56 hnb57 hnc57 w59 gb314 w60 GW314 GE314 NB277_314 NB314_277 NB278_314 NB314_278 NB300_314 NB314_300 NB307_314 NB314_307 Ao61 co61 hnb62 hnc62 hnb63 hnc63 hnb64 hnc64 hnb65 hnc65 Ao67 co67 w68 w71 gb322 w72 h1_164 GW322 GE322 h1_167 NB277_322 NB322_277 h1_170 NB278_322 NB322_278 h1_173 NB300_322 NB322_300 h1_176 NB307_322 NB322_307 h1_179 NB314_322 NB322_314 h1_182 Ao73 co73 hnb74 hnc74 hnb75 hnc75 hnb76 hnc76 hnb77 hnc77 hnb78 hnc78 Ao80 co80 HO283 HO286 HO289 HO292 HO295 HO298 HO303 HO306 HO310 HO313 HO317 HO320 h1_209 h1_210 h1_211 h1_212 h1_213 h1_214 h1_215 h1_216 h1_217 h1_218 h1_219 h1_220 h1_221 h1_222 h1_223 h1_224 h1_225 h1_226 h1_227 h1_228 h1_229 h1_230 h1_231 h1_232 h1_233 h1_234 h1_235 h1_236 h1_237 h1_238 h1_239 h1_240 h1_241 h1_242 h1_243 h1_244 h1_245 h1_246 h1_247 h1_248 h1_249 h1_250 h1_251 h1_252 h1_253 h1_254 h1_255 h1_256 h1_257 h1_258 h1_259 h1_260 h1_261 h1_262 h1_263 h1_264 h1_265 h1_266 h1_267 h1_268 h1_269 h1_270 h1_271 h1_272 h1_273 u82 h1_275 h1_276 h1_277 h1_278 h1_279 h1_280 h1_281 h1_282 h1_283 h1_284 h1_285 h1_286 h1_287 h1_288 h1_289 h1_290 h1_291 h1_292 h1_293 h1_294 h1_295 h1_296 h1_297 h1_298 h1_299 h1_300 h1_301 h1_302 h1_303 h1_304 h1_305 h1_306 h1_307 h1_308 h1_309 h1_310 kj24 HJ24 t324 t327 A96 A97 t331 t334 A99 A100 t338 t339 t340 A102 t341 t342 t343 A103 w105 h1_330 w106 Ao107 co107 Ao108 co108 h1_336 w109 h1_338 w110 h1_340 w111 Ao112 co112 Ao113 co113 h1_346 w114 h1_348 hnb115 hnc115 hnb116 hnc116 hnb117 hnc117 hnb118 hnc118 hnb119 hnc119 w121 hnb122 hnc122 hnb123 hnc123 hnb124 hnc124 hnb125 hnc125 w127 h1_369 h1_370 h1_371 h1_372 h1_373 h1_374 h1_375 h1_376 h1_377 h1_378 h1_379 h1_380 h1_381 h1_382 HO326 HO329 HO333 HO336 h1_387 wc u17 u18 u19 u20 u21 u22 u23 u24 u25 u26 u27 u28 u29 u30 u31 u32 u33 u34 u35 u36 u37 u38 u39 u40 u41 u42 u43 u44 u45 u46 u47 u48 u49 u50 u51 u52 u53 u54 u55 u56 u57 u58 u59 u60 u61 u62 u63 u64 u65 u66 u67 u68 u69 u70 u71 u72 u73 u74 u75 u76 u77 u78 u79 u80 u81 u83 u84 u85 u86 u87 u88 u89 u90 u91 u92 u93 u94 u95 u96 u97 u98 u99 u100 u101 u102 u103 u104 u105 u106 u107 u108 u109 u110 u111 u112 u113 u114 u115 u116 u117 u118 hl308000_103 hl308001_103 hl315000_103 hl315001_103 kj103 HJ103 t345 t346 t347 A144 t348 A145 c146b0 c147b0 c147b1 t349 t352 A148 t355 t358 A149 t361 t364 t367 A150 HC151 hnb152 hnc152 hnb153 hnc153 hnb154 hnc154 hnb155 hnc155 hnb156 hnc156 hcz157_0 hcz157_1 hfz157_0 hfz157_1 w158 hcz159_0 hcz159_1 hfz159_0 hfz159_1 w160 h1_536 h1_537 HT_ HW_ w161 HO_301000 HO_301001 HO_308000 HO_308001 HO_315000 HO_315001 HO_323000 HO_323001 BK277 BK278 BK300 BK307 BK314 BK322 HB hHeld
             exact hRest_ trivial
            ·
             rw [if_neg c147] at H
             have c147b0 : (t348 == t345) = false := beq_eq_false_iff_ne.mpr c147
             have c147b1 : (t348 != t345) = true := bne_iff_ne.mpr c147
             obtain rfl := Option.some.inj H
             exact absurd HT.out (by decide)
       ·
        replace c101 := Bool.eq_false_iff.mpr c101
        subst c101
        have H1 : (some false) = some r := by rw [if_neg (show ¬ (false = true) by decide)] at H; exact H
        clear H
        have H := H1
        clear H1
        obtain rfl := Option.some.inj H
        exact absurd HT.out (by decide)
      ·
       replace c98 := Bool.eq_false_iff.mpr c98
       subst c98
       have H1 : (some false) = some r := by rw [if_neg (show ¬ (false = true) by decide)] at H; exact H
       clear H
       have H := H1
       clear H1
       obtain rfl := Option.some.inj H
       exact absurd HT.out (by decide)⟩
end Go.Proofs.Ytnpcjppcoejgmaa.PFnExactPick
