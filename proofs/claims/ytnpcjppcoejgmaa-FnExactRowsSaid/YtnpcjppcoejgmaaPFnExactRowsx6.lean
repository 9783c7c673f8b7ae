/- The walk of what a law reaches, for the law's row: written by a program of this session; it has no condition of its own. -/
import Derived.Test.YtnpcjppcoejgmaaPFnExactRowsx0
import Derived.Test.YtnpcjppcoejgmaaQ
import Derived.Test.YtnpcjppcoejgmaaPFnExactRowsx1
import Derived.Test.YtnpcjppcoejgmaaPFnExactRowsx2
import Derived.Test.YtnpcjppcoejgmaaPFnExactRowsx3
import Derived.Test.YtnpcjppcoejgmaaPFnExactRowsx4
import Derived.Test.YtnpcjppcoejgmaaPFnExactRowsx5
namespace Go.Proofs.Ytnpcjppcoejgmaa.PFnExactRows
open Go.RowKit Go.Proofs.YtnpcjppcoejgmaaW.PrintWords Go.Proofs.YtnpcjppcoejgmaaW.PrintLast Go.Proofs.YtnpcjppcoejgmaaW.PrintMore Go.Proofs.YtnpcjppcoejgmaaQ
attribute [local go_sem] max2_int min2_int max_two min_two max_three min_three max_four min_four   -- for this text's walks alone
set_option linter.unusedVariables false
set_option linter.unusedSimpArgs false

theorem Kd.S_based {α : Type} {d : Kd α} {e : Nat} {w : World} {base : Nat} {ok : Nat → Prop} {v : Value} {xs : List α} (h : Kd.S d e w base ok v xs) : ∃ NN : Nat, NN = base ∧ Kd.S d e w base (fun k_ => NN ≤ k_) v xs := ⟨base, rfl, Kd.S_mono (Kd.S_bound h) (fun _ hk => hk.2.1)⟩
theorem Kd.S_elderN {α : Type} {d : Kd α} {e NN : Nat} {W w1 : World} {base : Nat} {ok : Nat → Prop} {u v : Value} {xs : List α} (hN : NN = W.heap.size) (h : Kd.S d e W base ok u xs) (hbase : ∀ k, v.ownBlock = some k → W.heap.size ≤ k) (hb : Below W.heap.size W w1) : Kd.S d e w1 base (fun k => (ok k ∧ some k ≠ v.ownBlock) ∧ k < NN) u xs := by
 subst hN
 exact Kd.S_mono (Kd.S_below (Kd.S_bound h) hb) (fun k hk => ⟨⟨hk.1, fun he => by have := hbase k he.symm; have := hk.2.2.1; omega⟩, hk.2.2.1⟩)
/-! ### laws_FnExactRows: function 3 -/
def laws_FnExactRows.j0 : Nat → List (S28) → List (S28) → Bool → List Int → List Int → Option (Bool)
 | 0, _, _, _, _, _ => none
 | k + 1, x4, x6, x42, x218000, x218001 => if x42 = true then (some false) else ((laws_markArrayS.f k x6 1).bind fun bt250 => ((laws_heldArrayS.f k bt250.2 1).bind fun t251 => (if t251 < 0 then (some false) else (if t251 = bt250.1 then ((laws_toArray.f k x218000 x218001).bind fun bt252 => ((impl_Rows.f k bt252.1 bt252.2).bind fun t258 => ((laws_eqArrayS.f k t258 x4).bind fun t261 => (if t261 = true then ((laws_heldArrayS.f k bt250.2 1).bind fun t262 => (if t262 < 0 then (some false) else (if t262 = bt250.1 then (some true) else (some false)))) else (some false))))) else (some false)))))
def laws_FnExactRows.f (k : Nat) (l0_0 : List Int) (l0_1 : List Int) : Option (Bool) := (laws_szArray.f l0_0 l0_1 1048576).bind fun t218 => (if t218 < 0 then (some true) else ((laws_toArray.f k l0_0 l0_1).bind fun bt219 => ((spec_Rows.f k bt219.1 bt219.2).bind fun t225 => ((laws_toArray.f k l0_0 l0_1).bind fun bt228 => ((impl_Rows.f k bt228.1 bt228.2).bind fun t235 => ((laws_eqArrayS.f k t235 t225).bind fun t238 => (if t238 = true then ((laws_toArray.f k l0_0 l0_1).bind fun bt239 => ((laws_eqArray.f k bt228.1 bt228.2 bt239.1 bt239.2).bind fun t245 => (if t245 = true then ((laws_markArray.f k bt228.1 bt228.2 1).bind fun bt246 => (if bt246.1 < 0 then (laws_FnExactRows.j0 k t225 t235 true l0_0 l0_1) else ((laws_eqArrayS.f k t235 t225).bind fun t249 => (laws_FnExactRows.j0 k t225 t235 (!t249) l0_0 l0_1)))) else (some false)))) else (some false))))))))
set_option maxHeartbeats 8000000 in
set_option maxRecDepth 100000 in
theorem laws_FnExactRows.calls (k : Nat) (A0_0 : Option Addr) (c0_0 : Nat) (l0_0 : List Int) (A0_1 : Option Addr) (c0_1 : Nat) (l0_1 : List Int) (r : Bool) (w : World) (hr0_0 : Kd.C (Kd.int .i64) w A0_0 l0_0.length l0_0) (hc0_0 : l0_0.length ≤ c0_0) (hr0_1 : Kd.C (Kd.int .i64) w A0_1 l0_1.length l0_1) (hc0_1 : l0_1.length ≤ c0_1) (h : laws_FnExactRows.f k l0_0 l0_1 = some r) (hT : r = true) :
  Calls Try.prog 3 #[.agg #[.slice A0_0 l0_0.length c0_0, .slice A0_1 l0_1.length c0_1]] w fun e w' => e = .returned (.bool r) ∧ Below w.heap.size w w' := by
 have HT := Aside0.mk hT
 clear hT
 have hu24 := Try.underlying24
 have hu28 := Try.underlying28
 have HR0_0 := Aside0.mk hr0_0
 have HC0_0 := Aside0.mk hc0_0
 clear hr0_0 hc0_0
 have HR0_1 := Aside0.mk hr0_1
 have HC0_1 := Aside0.mk hc0_1
 clear hr0_1 hc0_1
 have HB := Aside0.mk (Below.refl w.heap.size w)
 have H : ((laws_szArray.f l0_0 l0_1 1048576).bind fun t218 => (if t218 < 0 then (some true) else ((laws_toArray.f k l0_0 l0_1).bind fun bt219 => ((spec_Rows.f k bt219.1 bt219.2).bind fun t225 => ((laws_toArray.f k l0_0 l0_1).bind fun bt228 => ((impl_Rows.f k bt228.1 bt228.2).bind fun t235 => ((laws_eqArrayS.f k t235 t225).bind fun t238 => (if t238 = true then ((laws_toArray.f k l0_0 l0_1).bind fun bt239 => ((laws_eqArray.f k bt228.1 bt228.2 bt239.1 bt239.2).bind fun t245 => (if t245 = true then ((laws_markArray.f k bt228.1 bt228.2 1).bind fun bt246 => (if bt246.1 < 0 then (laws_FnExactRows.j0 k t225 t235 true l0_0 l0_1) else ((laws_eqArrayS.f k t235 t225).bind fun t249 => (laws_FnExactRows.j0 k t225 t235 (!t249) l0_0 l0_1)))) else (some false)))) else (some false))))))))) = some r := h
 clear h
 replace H := Option.bind_eq_some_iff.mp H
 obtain ⟨t218, A20, H⟩ := H
 replace H : (if t218 < 0 then (some true) else ((laws_toArray.f k l0_0 l0_1).bind fun bt219 => ((spec_Rows.f k bt219.1 bt219.2).bind fun t225 => ((laws_toArray.f k l0_0 l0_1).bind fun bt228 => ((impl_Rows.f k bt228.1 bt228.2).bind fun t235 => ((laws_eqArrayS.f k t235 t225).bind fun t238 => (if t238 = true then ((laws_toArray.f k l0_0 l0_1).bind fun bt239 => ((laws_eqArray.f k bt228.1 bt228.2 bt239.1 bt239.2).bind fun t245 => (if t245 = true then ((laws_markArray.f k bt228.1 bt228.2 1).bind fun bt246 => (if bt246.1 < 0 then (laws_FnExactRows.j0 k t225 t235 true l0_0 l0_1) else ((laws_eqArrayS.f k t235 t225).bind fun t249 => (laws_FnExactRows.j0 k t225 t235 (!t249) l0_0 l0_1)))) else (some false)))) else (some false)))))))) = some r := H
 have A2 := Aside0.mk A20
 clear A20
 by_cases c3 : t218 < 0
 ·
  rw [if_pos c3] at H
  have c3b0 : decide (t218 < 0) = true := decide_eq_true c3
  clear c3
  obtain rfl := Option.some.inj H
  go_enter Try.func3, Try.ntmps3
  go_wp2_with (first | ((with_reducible refine gate_dst (N := 1) rfl ?_); refine box_event ?hg (N := 1) ?hd (cs := #[.slice A0_0 l0_0.length c0_0, .slice A0_1 l0_1.length c0_1]) (t := 24) ?hr ?_; (case hd => rfl); (case hg => rfl); (case hr => first | (go_simp; done) | (go_simp; rfl)); intro gb217 hg w4 hbox hb; have BK217 := Aside0.mk (hbox); have GW217 := Aside0.mk ((by rw [hg]; exact (below_size (bU HB.out)) : w.heap.size ≤ gb217)); have GE217 := Aside0.mk ((by rw [hg]; exact (below_size (bU HB.out)) : w.heap.size ≤ gb217)); replace HB := Aside0.mk (below_step (bU HB.out) hb); clear hb hbox hg; have hcz5_0 : w4.cell? ⟨gb217, 0, none⟩ = some (.slice A0_0 l0_0.length c0_0) := (blk_cell BK217.out 0).trans rfl; have hcz5_1 : w4.cell? ⟨gb217, 1, none⟩ = some (.slice A0_1 l0_1.length c0_1) := (blk_cell BK217.out 1).trans rfl; have hfz5_0 := blk_frozen BK217.out 0; have hfz5_1 := blk_frozen BK217.out 1) | ((with_reducible refine gate_callee (f := 5) rfl ?_); refine goesL_ (some 13) rfl rfl Try.func5 (by kernel_rfl) rfl #[.agg #[.slice A0_0 l0_0.length c0_0, .slice A0_1 l0_1.length c0_1], .int .i64 1048576] rfl lU ?_; (with_reducible refine (laws_szArray.calls _ _ l0_0 _ _ l0_1 1048576 t218 _ ?side1 ?side2 ?side3 ?side4 A2.out).mono ?_); (case side1 => exact cU (Kd.C_below HR0_0.out HB.out)); (case side2 => exact HC0_0.out); (case side3 => exact cU (Kd.C_below HR0_1.out HB.out)); (case side4 => exact HC0_1.out); rintro e w6 ⟨rfl, hb⟩; refine ⟨_, rfl, ?_⟩; replace BK217 := Aside0.mk (kB BK217.out hb); replace HB := Aside0.mk (below_step (bS1 HB.out GE217.out) hb); (try clear hb); (try clear hb2); (try clear hk); (try clear hi)))
  go_ret
  exact ⟨by first | rfl | (simp [errW_none, errW_some] <;> rfl) | (simp [*, errW_none, errW_some] <;> rfl), by exact bS1 HB.out GE217.out⟩
 ·
  rw [if_neg c3] at H
  have c3b0 : decide (t218 < 0) = false := decide_eq_false c3
  clear c3
  replace H := Option.bind_eq_some_iff.mp H
  obtain ⟨⟨t219, t222⟩, A70, H⟩ := H
  replace H : ((spec_Rows.f k t219 t222).bind fun t225 => ((laws_toArray.f k l0_0 l0_1).bind fun bt228 => ((impl_Rows.f k bt228.1 bt228.2).bind fun t235 => ((laws_eqArrayS.f k t235 t225).bind fun t238 => (if t238 = true then ((laws_toArray.f k l0_0 l0_1).bind fun bt239 => ((laws_eqArray.f k bt228.1 bt228.2 bt239.1 bt239.2).bind fun t245 => (if t245 = true then ((laws_markArray.f k bt228.1 bt228.2 1).bind fun bt246 => (if bt246.1 < 0 then (laws_FnExactRows.j0 k t225 t235 true l0_0 l0_1) else ((laws_eqArrayS.f k t235 t225).bind fun t249 => (laws_FnExactRows.j0 k t225 t235 (!t249) l0_0 l0_1)))) else (some false)))) else (some false)))))) = some r := H
  have A7 := Aside0.mk A70
  clear A70
  replace H := Option.bind_eq_some_iff.mp H
  obtain ⟨t225, A80, H⟩ := H
  replace H : ((laws_toArray.f k l0_0 l0_1).bind fun bt228 => ((impl_Rows.f k bt228.1 bt228.2).bind fun t235 => ((laws_eqArrayS.f k t235 t225).bind fun t238 => (if t238 = true then ((laws_toArray.f k l0_0 l0_1).bind fun bt239 => ((laws_eqArray.f k bt228.1 bt228.2 bt239.1 bt239.2).bind fun t245 => (if t245 = true then ((laws_markArray.f k bt228.1 bt228.2 1).bind fun bt246 => (if bt246.1 < 0 then (laws_FnExactRows.j0 k t225 t235 true l0_0 l0_1) else ((laws_eqArrayS.f k t235 t225).bind fun t249 => (laws_FnExactRows.j0 k t225 t235 (!t249) l0_0 l0_1)))) else (some false)))) else (some false))))) = some r := H
  have A8 := Aside0.mk A80
  clear A80
  replace H := Option.bind_eq_some_iff.mp H
  obtain ⟨⟨t228, t231⟩, A90, H⟩ := H
  replace H : ((impl_Rows.f k t228 t231).bind fun t235 => ((laws_eqArrayS.f k t235 t225).bind fun t238 => (if t238 = true then ((laws_toArray.f k l0_0 l0_1).bind fun bt239 => ((laws_eqArray.f k t228 t231 bt239.1 bt239.2).bind fun t245 => (if t245 = true then ((laws_markArray.f k t228 t231 1).bind fun bt246 => (if bt246.1 < 0 then (laws_FnExactRows.j0 k t225 t235 true l0_0 l0_1) else ((laws_eqArrayS.f k t235 t225).bind fun t249 => (laws_FnExactRows.j0 k t225 t235 (!t249) l0_0 l0_1)))) else (some false)))) else (some false)))) = some r := H
  have A9 := Aside0.mk A90
  clear A90
  replace H := Option.bind_eq_some_iff.mp H
  obtain ⟨t235, A100, H⟩ := H
  replace H : ((laws_eqArrayS.f k t235 t225).bind fun t238 => (if t238 = true then ((laws_toArray.f k l0_0 l0_1).bind fun bt239 => ((laws_eqArray.f k t228 t231 bt239.1 bt239.2).bind fun t245 => (if t245 = true then ((laws_markArray.f k t228 t231 1).bind fun bt246 => (if bt246.1 < 0 then (laws_FnExactRows.j0 k t225 t235 true l0_0 l0_1) else ((laws_eqArrayS.f k t235 t225).bind fun t249 => (laws_FnExactRows.j0 k t225 t235 (!t249) l0_0 l0_1)))) else (some false)))) else (some false))) = some r := H
  have A10 := Aside0.mk A100
  clear A100
  replace H := Option.bind_eq_some_iff.mp H
  obtain ⟨t238, A110, H⟩ := H
  replace H : (if t238 = true then ((laws_toArray.f k l0_0 l0_1).bind fun bt239 => ((laws_eqArray.f k t228 t231 bt239.1 bt239.2).bind fun t245 => (if t245 = true then ((laws_markArray.f k t228 t231 1).bind fun bt246 => (if bt246.1 < 0 then (laws_FnExactRows.j0 k t225 t235 true l0_0 l0_1) else ((laws_eqArrayS.f k t235 t225).bind fun t249 => (laws_FnExactRows.j0 k t225 t235 (!t249) l0_0 l0_1)))) else (some false)))) else (some false)) = some r := H
  have A11 := Aside0.mk A110
  clear A110
  by_cases c12 : t238 = true
  ·
   subst c12
   have H1 : ((laws_toArray.f k l0_0 l0_1).bind fun bt239 => ((laws_eqArray.f k t228 t231 bt239.1 bt239.2).bind fun t245 => (if t245 = true then ((laws_markArray.f k t228 t231 1).bind fun bt246 => (if bt246.1 < 0 then (laws_FnExactRows.j0 k t225 t235 true l0_0 l0_1) else ((laws_eqArrayS.f k t235 t225).bind fun t249 => (laws_FnExactRows.j0 k t225 t235 (!t249) l0_0 l0_1)))) else (some false)))) = some r := by rw [if_pos rfl] at H; exact H
   clear H
   have H := H1
   clear H1
   replace H := Option.bind_eq_some_iff.mp H
   obtain ⟨⟨t239, t242⟩, A130, H⟩ := H
   replace H : ((laws_eqArray.f k t228 t231 t239 t242).bind fun t245 => (if t245 = true then ((laws_markArray.f k t228 t231 1).bind fun bt246 => (if bt246.1 < 0 then (laws_FnExactRows.j0 k t225 t235 true l0_0 l0_1) else ((laws_eqArrayS.f k t235 t225).bind fun t249 => (laws_FnExactRows.j0 k t225 t235 (!t249) l0_0 l0_1)))) else (some false))) = some r := H
   have A13 := Aside0.mk A130
   clear A130
   replace H := Option.bind_eq_some_iff.mp H
   obtain ⟨t245, A140, H⟩ := H
   replace H : (if t245 = true then ((laws_markArray.f k t228 t231 1).bind fun bt246 => (if bt246.1 < 0 then (laws_FnExactRows.j0 k t225 t235 true l0_0 l0_1) else ((laws_eqArrayS.f k t235 t225).bind fun t249 => (laws_FnExactRows.j0 k t225 t235 (!t249) l0_0 l0_1)))) else (some false)) = some r := H
   have A14 := Aside0.mk A140
   clear A140
   by_cases c15 : t245 = true
   ·
    subst c15
    have H1 : ((laws_markArray.f k t228 t231 1).bind fun bt246 => (if bt246.1 < 0 then (laws_FnExactRows.j0 k t225 t235 true l0_0 l0_1) else ((laws_eqArrayS.f k t235 t225).bind fun t249 => (laws_FnExactRows.j0 k t225 t235 (!t249) l0_0 l0_1)))) = some r := by rw [if_pos rfl] at H; exact H
    clear H
    have H := H1
    clear H1
    replace H := Option.bind_eq_some_iff.mp H
    obtain ⟨⟨t246, t247, t248⟩, A160, H⟩ := H
    replace H : (if t246 < 0 then (laws_FnExactRows.j0 k t225 t235 true l0_0 l0_1) else ((laws_eqArrayS.f k t235 t225).bind fun t249 => (laws_FnExactRows.j0 k t225 t235 (!t249) l0_0 l0_1))) = some r := H
    have A16 := Aside0.mk A160
    clear A160
    have HC17 := Aside0.mk H
    clear H
    go_enter Try.func3, Try.ntmps3
    try go_wp2_with (first | ((with_reducible refine gate_dst (N := 1) rfl ?_); refine box_event ?hg (N := 1) ?hd (cs := #[.slice A0_0 l0_0.length c0_0, .slice A0_1 l0_1.length c0_1]) (t := 24) ?hr ?_; (case hd => rfl); (case hg => rfl); (case hr => first | (go_simp; done) | (go_simp; rfl)); intro gb217 hg w18 hbox hb; have BK217 := Aside0.mk (hbox); have GW217 := Aside0.mk ((by rw [hg]; exact (below_size (bU HB.out)) : w.heap.size ≤ gb217)); have GE217 := Aside0.mk ((by rw [hg]; exact (below_size (bU HB.out)) : w.heap.size ≤ gb217)); replace HB := Aside0.mk (below_step (bU HB.out) hb); clear hb hbox hg; have hcz19_0 : w18.cell? ⟨gb217, 0, none⟩ = some (.slice A0_0 l0_0.length c0_0) := (blk_cell BK217.out 0).trans rfl; have hcz19_1 : w18.cell? ⟨gb217, 1, none⟩ = some (.slice A0_1 l0_1.length c0_1) := (blk_cell BK217.out 1).trans rfl; have hfz19_0 := blk_frozen BK217.out 0; have hfz19_1 := blk_frozen BK217.out 1) | ((with_reducible refine gate_callee (f := 5) rfl ?_); refine goesL_ (some 13) rfl rfl Try.func5 (by kernel_rfl) rfl #[.agg #[.slice A0_0 l0_0.length c0_0, .slice A0_1 l0_1.length c0_1], .int .i64 1048576] rfl lU ?_; (with_reducible refine (laws_szArray.calls _ _ l0_0 _ _ l0_1 1048576 t218 _ ?side1 ?side2 ?side3 ?side4 A2.out).mono ?_); (case side1 => exact cU (Kd.C_below HR0_0.out HB.out)); (case side2 => exact HC0_0.out); (case side3 => exact cU (Kd.C_below HR0_1.out HB.out)); (case side4 => exact HC0_1.out); rintro e w20 ⟨rfl, hb⟩; refine ⟨_, rfl, ?_⟩; replace BK217 := Aside0.mk (kB BK217.out hb); replace HB := Aside0.mk (below_step (bS1 HB.out GE217.out) hb); (try clear hb); (try clear hb2); (try clear hk); (try clear hi); have hcz21_0 : w20.cell? ⟨gb217, 0, none⟩ = some (.slice A0_0 l0_0.length c0_0) := (blk_cell BK217.out 0).trans rfl; have hcz21_1 : w20.cell? ⟨gb217, 1, none⟩ = some (.slice A0_1 l0_1.length c0_1) := (blk_cell BK217.out 1).trans rfl; have hfz21_0 := blk_frozen BK217.out 0; have hfz21_1 := blk_frozen BK217.out 1) | ((with_reducible refine gate_callee (f := 7) rfl ?_); refine goesL_ (some 17) rfl rfl Try.func7 (by kernel_rfl) rfl #[.agg #[.slice A0_0 l0_0.length c0_0, .slice A0_1 l0_1.length c0_1]] rfl lU ?_; (with_reducible refine (laws_toArray.calls k _ _ l0_0 _ _ l0_1 t219 t222 _ ?side1 ?side2 ?side3 ?side4 A7.out).mono ?_); (case side1 => exact cU (Kd.C_below HR0_0.out HB.out)); (case side2 => exact HC0_0.out); (case side3 => exact cU (Kd.C_below HR0_1.out HB.out)); (case side4 => exact HC0_1.out); rintro e w22 ⟨v220, v223, rfl, ho0, ho1, hb⟩; refine ⟨_, rfl, ?_⟩; have HO221 := Aside0.mk (Kd.R_lower ho0 (below_size (bS1 HB.out GE217.out))); have HO224 := Aside0.mk (Kd.R_lower ho1 (below_size (bS1 HB.out GE217.out))); replace BK217 := Aside0.mk (kB BK217.out hb); replace HB := Aside0.mk (below_step (bS1 HB.out GE217.out) hb); (try clear hb); (try clear hb2); (try clear hk); (try clear hi); (try clear ho0); (try clear ho1); obtain ⟨Ao23, co23, eo23⟩ := Kd.R_slice HO221.out; subst eo23; obtain ⟨Ao24, co24, eo24⟩ := Kd.R_slice HO224.out; subst eo24) | ((with_reducible refine gate_callee (f := 6) rfl ?_); refine goesL_ (some 18) rfl rfl Try.func6 (by kernel_rfl) rfl #[.agg #[.slice Ao23 t219.length co23, .slice Ao24 t222.length co24]] rfl lU ?_; (with_reducible refine (spec_Rows.calls k _ _ t219 _ _ t222 t225 _ ?side1 ?side2 ?side3 ?side4 A8.out).mono ?_); (case side1 => exact cU (Kd.R_reads' HO221.out).2.2); (case side2 => exact (Kd.R_reads' HO221.out).2.1); (case side3 => exact cU (Kd.R_reads' HO224.out).2.2); (case side4 => exact (Kd.R_reads' HO224.out).2.1); rintro e w25 ⟨v226, rfl, ho0, hb⟩; refine ⟨_, rfl, ?_⟩; have HO227 := Aside0.mk (Kd.S_lower (Kd.S_new' (Kd.S_new' ho0 (Kd.R_lt (RU HO221.out))) (Kd.R_lt (RU HO224.out))) (below_size (bS1 HB.out GE217.out))); replace HO221 := Aside0.mk (Kd.R_below (RU HO221.out) hb); replace HO224 := Aside0.mk (Kd.R_below (RU HO224.out) hb); replace BK217 := Aside0.mk (kB BK217.out hb); replace HB := Aside0.mk (below_step (bS1 HB.out GE217.out) hb); (try clear hb); (try clear hb2); (try clear hk); (try clear hi); (try clear ho0); have hcz26_0 : w25.cell? ⟨gb217, 0, none⟩ = some (.slice A0_0 l0_0.length c0_0) := (blk_cell BK217.out 0).trans rfl; have hcz26_1 : w25.cell? ⟨gb217, 1, none⟩ = some (.slice A0_1 l0_1.length c0_1) := (blk_cell BK217.out 1).trans rfl; have hfz26_0 := blk_frozen BK217.out 0; have hfz26_1 := blk_frozen BK217.out 1) | ((with_reducible refine gate_callee (f := 7) rfl ?_); refine goesL_ (some 20) rfl rfl Try.func7 (by kernel_rfl) rfl #[.agg #[.slice A0_0 l0_0.length c0_0, .slice A0_1 l0_1.length c0_1]] rfl lU ?_; (with_reducible refine (laws_toArray.calls k _ _ l0_0 _ _ l0_1 t228 t231 _ ?side1 ?side2 ?side3 ?side4 A9.out).mono ?_); (case side1 => exact cU (Kd.C_below HR0_0.out HB.out)); (case side2 => exact HC0_0.out); (case side3 => exact cU (Kd.C_below HR0_1.out HB.out)); (case side4 => exact HC0_1.out); rintro e w27 ⟨v229, v232, rfl, ho0, ho1, hb⟩; refine ⟨_, rfl, ?_⟩; replace HO227 := Aside0.mk (Kd.S_mono (Kd.S_told (Kd.S_told (Kd.S_old (SU HO227.out) hb) (Kd.R_base ho0)) (Kd.R_base ho1)) (fun _ h_ => h_.1)); have HO230 := Aside0.mk (Kd.R_lower (Kd.R_new' (Kd.R_new' ho0 (Kd.R_lt (RU HO221.out))) (Kd.R_lt (RU HO224.out))) (below_size (bS1 HB.out GE217.out))); have HO233 := Aside0.mk (Kd.R_lower (Kd.R_new' (Kd.R_new' ho1 (Kd.R_lt (RU HO221.out))) (Kd.R_lt (RU HO224.out))) (below_size (bS1 HB.out GE217.out))); replace HO221 := Aside0.mk (Kd.R_mono (Kd.R_told (Kd.R_told (Kd.R_old (RU HO221.out) hb) (Kd.R_base ho0)) (Kd.R_base ho1)) (fun _ h_ => h_.1)); replace HO224 := Aside0.mk (Kd.R_mono (Kd.R_told (Kd.R_told (Kd.R_old (RU HO224.out) hb) (Kd.R_base ho0)) (Kd.R_base ho1)) (fun _ h_ => h_.1)); replace BK217 := Aside0.mk (kB BK217.out hb); replace HB := Aside0.mk (below_step (bS1 HB.out GE217.out) hb); (try clear hb); (try clear hb2); (try clear hk); (try clear hi); (try clear ho0); (try clear ho1)) | ((with_reducible refine gate_dst (N := 5) rfl ?_); refine box_event ?hg (N := 5) ?hd (cs := #[.slice none 0 0, .slice none 0 0]) (t := 28) ?hr ?_; (case hd => rfl); (case hg => rfl); (case hr => first | (go_simp; done) | (go_simp; rfl)); intro gb234 hg w28 hbox hb; replace HO221 := Aside0.mk (Kd.R_below (RU HO221.out) hb); replace HO224 := Aside0.mk (Kd.R_below (RU HO224.out) hb); replace HO227 := Aside0.mk (Kd.S_below (Kd.S_elderB (SU HO227.out) gb234 (Nat.le_of_eq hg.symm)) hb); replace HO230 := Aside0.mk (Kd.R_below (RU HO230.out) hb); replace HO233 := Aside0.mk (Kd.R_below (RU HO233.out) hb); have BK234 := Aside0.mk (hbox); have GW234 := Aside0.mk ((by rw [hg]; exact (below_size (bS1 HB.out GE217.out)) : w.heap.size ≤ gb234)); have GE234 := Aside0.mk ((by rw [hg]; exact (below_size (bS1 HB.out GE217.out)) : w.heap.size ≤ gb234)); replace HB := Aside0.mk (below_step (bS1 HB.out GE217.out) hb); have NB217_234 := Aside0.mk (kN BK217.out hg); have NB234_217 := Aside0.mk (kM BK217.out hg); replace BK217 := Aside0.mk (kB BK217.out hb); clear hb hbox hg; obtain ⟨Ao29, co29, eo29⟩ := Kd.R_slice HO230.out; subst eo29; have hnb30 := NB234_217.out; have hnc30 := NB217_234.out; have hcz31_0 : w28.cell? ⟨gb234, 0, none⟩ = some (.slice none 0 0) := (blk_cell BK234.out 0).trans rfl; have hcz31_1 : w28.cell? ⟨gb234, 1, none⟩ = some (.slice none 0 0) := (blk_cell BK234.out 1).trans rfl; have hfz31_0 := blk_frozen BK234.out 0; have hfz31_1 := blk_frozen BK234.out 1; obtain ⟨Ao32, co32, eo32⟩ := Kd.R_slice HO233.out; subst eo32) | ((with_reducible refine gate_callee (f := 8) rfl ?_); refine goesL_ (some 22) rfl rfl Try.func8 (by kernel_rfl) rfl #[.agg #[.slice Ao29 t228.length co29, .slice Ao32 t231.length co32]] rfl lU ?_; (with_reducible refine (impl_Rows.calls k _ _ t228 _ _ t231 t235 _ ?side1 ?side2 ?side3 ?side4 A10.out).mono ?_); (case side1 => refine (Kd.R_reads' (e := 3) (base := w.heap.size) (ok := fun k_ => ((some k_ ≠ (.slice Ao32 t231.length co32 : Value).ownBlock ∧ some k_ ≠ (.slice Ao23 t219.length co23 : Value).ownBlock) ∧ some k_ ≠ (.slice Ao24 t222.length co24 : Value).ownBlock)) (n := t228.length) (c := co29) ?_).2.2; exact (by refine RU ?_; exact (far2 HO230.out BK234.out))); (case side2 => exact (Kd.R_reads' HO230.out).2.1); (case side3 => refine (Kd.R_reads' (e := 3) (base := w.heap.size) (ok := fun k_ => ((some k_ ≠ (.slice Ao29 t228.length co29 : Value).ownBlock ∧ some k_ ≠ (.slice Ao23 t219.length co23 : Value).ownBlock) ∧ some k_ ≠ (.slice Ao24 t222.length co24 : Value).ownBlock)) (n := t231.length) (c := co32) ?_).2.2; exact (by refine RU ?_; exact (far2 HO233.out BK234.out))); (case side4 => exact (Kd.R_reads' HO233.out).2.1); rintro e w33 ⟨v236, rfl, ho0, hb⟩; refine ⟨_, rfl, ?_⟩; obtain ⟨NN, hNN, ho0_⟩ := Kd.S_based ho0; replace ho0 := ho0_; clear ho0_; have HO237 := Aside0.mk (Kd.S_lower (Kd.S_newB (Kd.S_new' (Kd.S_new' (Kd.S_new' (Kd.S_new' (Kd.S_new' ho0 (Kd.R_lt (by refine RU ?_; exact (far2 HO221.out BK234.out)))) (Kd.R_lt (by refine RU ?_; exact (far2 HO224.out BK234.out)))) (Kd.S_lt (by refine SU ?_; exact (Kd.S_mono (Kd.S_far (p := ⟨gb234, 1, none⟩) (Kd.S_far (p := ⟨gb234, 0, none⟩) (Kd.S_mono HO227.out (fun k_ hk => (⟨hk, hk.2⟩ : _ ∧ k_ ≠ gb234))) (fun _ hk => hk.2) (.slice Ao29 t228.length co29)) (fun _ hk => hk.2) (.slice Ao32 t231.length co32)) (fun _ h_ => h_.1))))) (Kd.R_lt (by refine RU ?_; exact (far2 HO230.out BK234.out)))) (Kd.R_lt (by refine RU ?_; exact (far2 HO233.out BK234.out)))) (g := gb234) (o := .cells #[.slice Ao29 t228.length co29, .slice Ao32 t231.length co32] 28 (0, 0)) (by refine kU ?_; refine blk_put (cs := #[.slice Ao29 t228.length co29, .slice none 0 0]) ?_ 1 _ rfl; refine kU ?_; refine blk_put (cs := #[.slice none 0 0, .slice none 0 0]) ?_ 0 _ rfl; refine kU ?_; exact BK234.out)) (below_size (bS2 HB.out GE217.out GE234.out))); replace HO221 := Aside0.mk (Kd.R_below (by refine RU ?_; exact (far2 HO221.out BK234.out)) hb); replace HO224 := Aside0.mk (Kd.R_below (by refine RU ?_; exact (far2 HO224.out BK234.out)) hb); replace HO227 := Aside0.mk (Kd.S_elderN hNN (by refine SU ?_; exact (Kd.S_mono (Kd.S_far (p := ⟨gb234, 1, none⟩) (Kd.S_far (p := ⟨gb234, 0, none⟩) (Kd.S_mono HO227.out (fun k_ hk => (⟨hk, hk.2⟩ : _ ∧ k_ ≠ gb234))) (fun _ hk => hk.2) (.slice Ao29 t228.length co29)) (fun _ hk => hk.2) (.slice Ao32 t231.length co32)) (fun _ h_ => h_.1))) (Kd.S_base ho0) hb); replace HO230 := Aside0.mk (Kd.R_below (by refine RU ?_; exact (far2 HO230.out BK234.out)) hb); replace HO233 := Aside0.mk (Kd.R_below (by refine RU ?_; exact (far2 HO233.out BK234.out)) hb); replace BK217 := Aside0.mk (blk_below (g := gb217) (o := .cells #[.slice A0_0 l0_0.length c0_0, .slice A0_1 l0_1.length c0_1] 24 (0, 0)) (by refine kU ?_; refine blk_far ?_ NB217_234.out _; refine kU ?_; refine blk_far ?_ NB217_234.out _; refine kU ?_; exact BK217.out) hb); replace BK234 := Aside0.mk (blk_below (g := gb234) (o := .cells #[.slice Ao29 t228.length co29, .slice Ao32 t231.length co32] 28 (0, 0)) (by refine kU ?_; refine blk_put (cs := #[.slice Ao29 t228.length co29, .slice none 0 0]) ?_ 1 _ rfl; refine kU ?_; refine blk_put (cs := #[.slice none 0 0, .slice none 0 0]) ?_ 0 _ rfl; refine kU ?_; exact BK234.out) hb); replace HB := Aside0.mk (below_step (bS2 HB.out GE217.out GE234.out) hb); (try clear hb); (try clear hb2); (try clear hk); (try clear hi); (try clear ho0); clear hNN; obtain ⟨Ao34, co34, eo34⟩ := Kd.S_slice HO237.out; subst eo34; obtain ⟨Ao35, co35, eo35⟩ := Kd.S_slice HO227.out; subst eo35) | ((with_reducible refine gate_callee (f := 9) rfl ?_); refine goesL_ (some 25) rfl rfl Try.func9 (by kernel_rfl) rfl #[.slice Ao34 t235.length co34, .slice Ao35 t225.length co35] rfl lU ?_; (with_reducible refine (laws_eqArrayS.calls k _ _ t235 _ _ t225 true _ ?side1 ?side2 ?side3 ?side4 A11.out).mono ?_); (case side1 => exact cU (Kd.S_reads' HO237.out).2.2); (case side2 => exact (Kd.S_reads' HO237.out).2.1); (case side3 => exact cU (Kd.S_reads' HO227.out).2.2); (case side4 => exact (Kd.S_reads' HO227.out).2.1); rintro e w36 ⟨rfl, hb⟩; refine ⟨_, rfl, ?_⟩; replace HO221 := Aside0.mk (Kd.R_below (RU HO221.out) hb); replace HO224 := Aside0.mk (Kd.R_below (RU HO224.out) hb); replace HO227 := Aside0.mk (Kd.S_below (SU HO227.out) hb); replace HO230 := Aside0.mk (Kd.R_below (RU HO230.out) hb); replace HO233 := Aside0.mk (Kd.R_below (RU HO233.out) hb); replace HO237 := Aside0.mk (Kd.S_below (SU HO237.out) hb); replace BK217 := Aside0.mk (kB BK217.out hb); replace BK234 := Aside0.mk (kB BK234.out hb); replace HB := Aside0.mk (below_step (bS2 HB.out GE217.out GE234.out) hb); (try clear hb); (try clear hb2); (try clear hk); (try clear hi)))
    replace HO221 := Aside0.mk (Kd.R_drew HO221.out)
    replace HO224 := Aside0.mk (Kd.R_drew HO224.out)
    replace HO227 := Aside0.mk (Kd.S_drew HO227.out)
    replace HO230 := Aside0.mk (Kd.R_drew HO230.out)
    replace HO233 := Aside0.mk (Kd.R_drew HO233.out)
    replace HO237 := Aside0.mk (Kd.S_drew HO237.out)
    replace BK217 := Aside0.mk (blk_drew BK217.out)
    replace BK234 := Aside0.mk (blk_drew BK234.out)
    replace HB := Aside0.mk (below_drew1 HB.out)
    refine start_ (n := 5) (S := fun w' => w'.cell? ⟨gb234, 0, none⟩ = some (.slice Ao29 t228.length co29) ∧ w'.cell? ⟨gb234, 1, none⟩ = some (.slice Ao32 t231.length co32) ∧ w'.cell? ⟨gb217, 0, none⟩ = some (.slice A0_0 l0_0.length c0_0) ∧ w'.cell? ⟨gb217, 1, none⟩ = some (.slice A0_1 l0_1.length c0_1)) (ds := []) #[false, false, false, false, false] (by kernel_rfl) rfl rfl ⟨(blk_cell BK234.out 0).trans rfl, (blk_cell BK234.out 1).trans rfl, (blk_cell BK217.out 0).trans rfl, (blk_cell BK217.out 1).trans rfl⟩ (fun hHeld => ?_)
    generalize w36.drew = w37 at HO221 HO224 HO227 HO230 HO233 HO237 BK217 BK234 HB hHeld ⊢
    refine take_ (i := 0) (N := some 27) (v := ?_) (a' := ?_) #[true, false, false, false, false] rfl rfl (by kernel_rfl) (fun _ _ _ h => h) (Or.inl ⟨by rfl, ?_⟩) hHeld ?_ ?_
    rotate_left
    ·
     rintro w' ⟨s0, s1, s2, s3⟩
     go_simp
     with_reducible rfl
    rotate_left
    ·
     simp only [Act.put, List.setIfInBounds_toArray, List.set_cons_zero, List.set_cons_succ, i64_w, i32_w]
     rfl
    refine take_ (i := 1) (N := some 28) (v := ?_) (a' := ?_) #[true, true, false, false, false] rfl rfl (by kernel_rfl) (fun _ _ _ h => h) (Or.inl ⟨by rfl, ?_⟩) hHeld ?_ ?_
    rotate_left
    ·
     rintro w' ⟨s0, s1, s2, s3⟩
     go_simp
     with_reducible rfl
    rotate_left
    ·
     simp only [Act.put, List.setIfInBounds_toArray, List.set_cons_zero, List.set_cons_succ, i64_w, i32_w]
     rfl
    refine one_ (i := 2) (N := some 29) #[true, true, true, false, false] rfl rfl (by kernel_rfl) (by decide) (fun K hK => ?_)
    refine goes_ Try.func7 (by kernel_rfl) rfl #[.agg #[.slice A0_0 l0_0.length c0_0, .slice A0_1 l0_1.length c0_1]] (by rfl) rfl rfl lU ?_
    with_reducible refine (laws_toArray.calls k _ _ l0_0 _ _ l0_1 t239 t242 _ ?side1 ?side2 ?side3 ?side4 A13.out).mono ?_
    (case side1 => exact cU (Kd.C_below HR0_0.out HB.out))
    (case side2 => exact HC0_0.out)
    (case side3 => exact cU (Kd.C_below HR0_1.out HB.out))
    (case side4 => exact HC0_1.out)
    rintro e w38 ⟨v240, v243, rfl, ho0, ho1, hb⟩
    refine ⟨_, rfl, ?_⟩
    replace HO227 := Aside0.mk (Kd.S_mono (Kd.S_told (Kd.S_told (Kd.S_old (SU HO227.out) hb) (Kd.R_base ho0)) (Kd.R_base ho1)) (fun _ h_ => h_.1))
    replace HO237 := Aside0.mk (Kd.S_mono (Kd.S_told (Kd.S_told (Kd.S_old (SU HO237.out) hb) (Kd.R_base ho0)) (Kd.R_base ho1)) (fun _ h_ => h_.1))
    have HO241 := Aside0.mk (Kd.R_lower (Kd.R_new' (Kd.R_new' (Kd.R_new' (Kd.R_new' ho0 (Kd.R_lt (RU HO221.out))) (Kd.R_lt (RU HO224.out))) (Kd.R_lt (RU HO230.out))) (Kd.R_lt (RU HO233.out))) (below_size (bS2 HB.out GE217.out GE234.out)))
    have HO244 := Aside0.mk (Kd.R_lower (Kd.R_new' (Kd.R_new' (Kd.R_new' (Kd.R_new' ho1 (Kd.R_lt (RU HO221.out))) (Kd.R_lt (RU HO224.out))) (Kd.R_lt (RU HO230.out))) (Kd.R_lt (RU HO233.out))) (below_size (bS2 HB.out GE217.out GE234.out)))
    replace HO221 := Aside0.mk (Kd.R_mono (Kd.R_told (Kd.R_told (Kd.R_old (RU HO221.out) hb) (Kd.R_base ho0)) (Kd.R_base ho1)) (fun _ h_ => h_.1))
    replace HO224 := Aside0.mk (Kd.R_mono (Kd.R_told (Kd.R_told (Kd.R_old (RU HO224.out) hb) (Kd.R_base ho0)) (Kd.R_base ho1)) (fun _ h_ => h_.1))
    replace HO230 := Aside0.mk (Kd.R_mono (Kd.R_told (Kd.R_told (Kd.R_old (RU HO230.out) hb) (Kd.R_base ho0)) (Kd.R_base ho1)) (fun _ h_ => h_.1))
    replace HO233 := Aside0.mk (Kd.R_mono (Kd.R_told (Kd.R_told (Kd.R_old (RU HO233.out) hb) (Kd.R_base ho0)) (Kd.R_base ho1)) (fun _ h_ => h_.1))
    replace BK217 := Aside0.mk (kB BK217.out hb)
    replace BK234 := Aside0.mk (kB BK234.out hb)
    replace HB := Aside0.mk (below_step (bS2 HB.out GE217.out GE234.out) hb)
    (try clear hb)
    (try clear hb2)
    (try clear hk)
    (try clear hi)
    (try clear ho0)
    (try clear ho1)
    obtain ⟨Ao39, co39, eo39⟩ := Kd.R_slice HO241.out
    (first | subst eo39 | (injection eo39 with f1_ f2_ f3_; have f4_ := f1_.symm; have f5_ := f3_.symm; clear f1_ f2_ f3_; subst f4_; subst f5_))
    obtain ⟨Ao40, co40, eo40⟩ := Kd.R_slice HO244.out
    (first | subst eo40 | (injection eo40 with f1_ f2_ f3_; have f4_ := f1_.symm; have f5_ := f3_.symm; clear f1_ f2_ f3_; subst f4_; subst f5_))
    refine hK.out _ _ ⟨(blk_cell BK234.out 0).trans rfl, (blk_cell BK234.out 1).trans rfl, (blk_cell BK217.out 0).trans rfl, (blk_cell BK217.out 1).trans rfl⟩ (fun hHeld => ?_)
    clear hK K
    refine norm_ (a' := ?_) ?_ ?_
    rotate_left
    ·
     show Act.put _ (some 29) _ = _
     simp only [Act.put, List.setIfInBounds_toArray, List.set_cons_zero, List.set_cons_succ, i64_w, i32_w]
     rfl
    refine one_ (i := 3) (N := some 30) #[true, true, true, true, false] rfl rfl (by kernel_rfl) (by decide) (fun K hK => ?_)
    refine goes_ Try.func10 (by kernel_rfl) rfl #[.agg #[.slice Ao29 t228.length co29, .slice Ao32 t231.length co32], .agg #[.slice Ao39 t239.length co39, .slice Ao40 t242.length co40]] (by rfl) rfl rfl lU ?_
    with_reducible refine (laws_eqArray.calls k _ _ t228 _ _ t231 _ _ t239 _ _ t242 true _ ?side1 ?side2 ?side3 ?side4 ?side5 ?side6 ?side7 ?side8 A14.out).mono ?_
    (case side1 => exact cU (Kd.R_reads' HO230.out).2.2)
    (case side2 => exact (Kd.R_reads' HO230.out).2.1)
    (case side3 => exact cU (Kd.R_reads' HO233.out).2.2)
    (case side4 => exact (Kd.R_reads' HO233.out).2.1)
    (case side5 => exact cU (Kd.R_reads' HO241.out).2.2)
    (case side6 => exact (Kd.R_reads' HO241.out).2.1)
    (case side7 => exact cU (Kd.R_reads' HO244.out).2.2)
    (case side8 => exact (Kd.R_reads' HO244.out).2.1)
    rintro e w41 ⟨rfl, hb⟩
    refine ⟨_, rfl, ?_⟩
    replace HO221 := Aside0.mk (Kd.R_below (RU HO221.out) hb)
    replace HO224 := Aside0.mk (Kd.R_below (RU HO224.out) hb)
    replace HO227 := Aside0.mk (Kd.S_below (SU HO227.out) hb)
    replace HO230 := Aside0.mk (Kd.R_below (RU HO230.out) hb)
    replace HO233 := Aside0.mk (Kd.R_below (RU HO233.out) hb)
    replace HO237 := Aside0.mk (Kd.S_below (SU HO237.out) hb)
    replace HO241 := Aside0.mk (Kd.R_below (RU HO241.out) hb)
    replace HO244 := Aside0.mk (Kd.R_below (RU HO244.out) hb)
    replace BK217 := Aside0.mk (kB BK217.out hb)
    replace BK234 := Aside0.mk (kB BK234.out hb)
    replace HB := Aside0.mk (below_step (bS2 HB.out GE217.out GE234.out) hb)
    (try clear hb)
    (try clear hb2)
    (try clear hk)
    (try clear hi)
    refine hK.out _ _ ⟨(blk_cell BK234.out 0).trans rfl, (blk_cell BK234.out 1).trans rfl, (blk_cell BK217.out 0).trans rfl, (blk_cell BK217.out 1).trans rfl⟩ (fun hHeld => ?_)
    clear hK K
    refine norm_ (a' := ?_) ?_ ?_
    rotate_left
    ·
     show Act.put _ (some 30) _ = _
     simp only [Act.put, List.setIfInBounds_toArray, List.set_cons_zero, List.set_cons_succ, i64_w, i32_w]
     rfl
    refine pure_ (i := 4) (N := some 31) (v := ?_) (a' := ?_) #[true, true, true, true, true] rfl rfl (by kernel_rfl) (fun _ _ _ h => h) (Or.inl ⟨by rfl, ?_⟩) ?_ ?_
    rotate_left
    ·
     intro w'
     go_simp
     with_reducible rfl
    rotate_left
    ·
     simp only [Act.put, List.setIfInBounds_toArray, List.set_cons_zero, List.set_cons_succ, i64_w, i32_w]
     rfl
    refine done_ (by kernel_rfl) ?_
    have hcz42_0 : w41.cell? ⟨gb234, 0, none⟩ = some (.slice Ao29 t228.length co29) := (blk_cell BK234.out 0).trans rfl
    have hcz42_1 : w41.cell? ⟨gb234, 1, none⟩ = some (.slice Ao32 t231.length co32) := (blk_cell BK234.out 1).trans rfl
    have hfz42_0 := blk_frozen BK234.out 0
    have hfz42_1 := blk_frozen BK234.out 1
    go_upto_region 14 with (first | ((with_reducible refine gate_callee (f := 11) rfl ?_); refine goesL_ (some 34) rfl rfl Try.func11 (by kernel_rfl) rfl #[.agg #[.slice Ao29 t228.length co29, .slice Ao32 t231.length co32], .int .i64 1] rfl lU ?_; (with_reducible refine (laws_markArray.calls k (fun k_ => some k_ = (.slice Ao29 t228.length co29 : Value).ownBlock) (.slice Ao29 t228.length co29) t228 (fun k_ => some k_ = (.slice Ao32 t231.length co32 : Value).ownBlock) (.slice Ao32 t231.length co32) t231 1 t246 t247 t248 w _ ?side1 ?side2 ?side3 ?side4 ?side5 A16.out).mono ?_); (case side1 => exact bS2 HB.out GE217.out GE234.out); (case side2 => exact Kd.R_tight rfl HO230.out); (case side3 => exact fun k_ e_ => (HO230.out.1 k_ e_.symm).1.1.1.1); (case side4 => exact Kd.R_tight rfl HO233.out); (case side5 => exact fun k_ e_ => (HO233.out.1 k_ e_.symm).1.1.1.1); rintro e w43 ⟨rfl, hy0, hy1, hb, hkp⟩; refine ⟨_, rfl, ?_⟩; replace BK217 := Aside0.mk (blk_kept (kU BK217.out) hkp (fun hs_ => Or.elim hs_ (fun e_ => (fun e_ => (Kd.R_ne HO230.out BK217.out (by decide)) e_) e_) (fun e_ => (fun e_ => (Kd.R_ne HO233.out BK217.out (by decide)) e_) e_))); replace HO221 := Aside0.mk (Kd.R_mono (ok' := fun k_ => some k_ ≠ (.slice Ao24 t222.length co24 : Value).ownBlock ∧ some k_ ≠ (.slice Ao29 t228.length co29 : Value).ownBlock ∧ some k_ ≠ (.slice Ao32 t231.length co32 : Value).ownBlock ∧ some k_ ≠ (.slice Ao39 t239.length co39 : Value).ownBlock ∧ some k_ ≠ (.slice Ao40 t242.length co40 : Value).ownBlock) (Kd.R_keptB (HO221.out) hkp (fun k_ hk_ hs_ => Or.elim hs_ (fun e_ => (hk_.1.1.1.2) e_) (fun e_ => (hk_.1.1.2) e_))) (fun k_ hk_ => ⟨hk_.1.1.1.1.1, hk_.1.1.1.1.2, hk_.1.1.1.2, hk_.1.1.2, hk_.1.2⟩)); replace HO224 := Aside0.mk (Kd.R_mono (ok' := fun k_ => some k_ ≠ (.slice Ao23 t219.length co23 : Value).ownBlock ∧ some k_ ≠ (.slice Ao29 t228.length co29 : Value).ownBlock ∧ some k_ ≠ (.slice Ao32 t231.length co32 : Value).ownBlock ∧ some k_ ≠ (.slice Ao39 t239.length co39 : Value).ownBlock ∧ some k_ ≠ (.slice Ao40 t242.length co40 : Value).ownBlock) (Kd.R_keptB (HO224.out) hkp (fun k_ hk_ hs_ => Or.elim hs_ (fun e_ => (hk_.1.1.1.2) e_) (fun e_ => (hk_.1.1.2) e_))) (fun k_ hk_ => ⟨hk_.1.1.1.1.1, hk_.1.1.1.1.2, hk_.1.1.1.2, hk_.1.1.2, hk_.1.2⟩)); replace HO227 := Aside0.mk (Kd.S_mono (ok' := fun k_ => some k_ ≠ (.slice Ao23 t219.length co23 : Value).ownBlock ∧ some k_ ≠ (.slice Ao24 t222.length co24 : Value).ownBlock ∧ some k_ ≠ (.slice Ao29 t228.length co29 : Value).ownBlock ∧ some k_ ≠ (.slice Ao32 t231.length co32 : Value).ownBlock ∧ some k_ ≠ (.slice Ao34 t235.length co34 : Value).ownBlock ∧ some k_ ≠ (.slice Ao39 t239.length co39 : Value).ownBlock ∧ some k_ ≠ (.slice Ao40 t242.length co40 : Value).ownBlock ∧ k_ ≠ gb234 ∧ k_ < NN) (Kd.S_keptB (HO227.out) hkp (fun k_ hk_ hs_ => Or.elim hs_ (fun e_ => (hk_.1.1.1.1.1.1.2) e_) (fun e_ => (hk_.1.1.1.1.1.2) e_))) (fun k_ hk_ => ⟨hk_.1.1.1.1.1.1.1.1.1.2, hk_.1.1.1.1.1.1.1.1.2, hk_.1.1.1.1.1.1.1.2, hk_.1.1.1.1.1.1.2, hk_.1.1.1.1.2, hk_.1.1.2, hk_.1.2, hk_.1.1.1.1.1.2, hk_.1.1.1.2⟩)); replace BK234 := Aside0.mk (blk_kept (kU BK234.out) hkp (fun hs_ => Or.elim hs_ (fun e_ => (fun e_ => (Kd.R_ne HO230.out BK234.out (by decide)) e_) e_) (fun e_ => (fun e_ => (Kd.R_ne HO233.out BK234.out (by decide)) e_) e_))); replace HO230 := Aside0.mk (Kd.R_reok rfl hy0 (fun k_ e_ => HO230.out.1 k_ e_)); replace HO233 := Aside0.mk (Kd.R_reok rfl hy1 (fun k_ e_ => HO233.out.1 k_ e_)); replace HO237 := Aside0.mk (Kd.S_mono (ok' := fun k_ => some k_ ≠ (.slice Ao23 t219.length co23 : Value).ownBlock ∧ some k_ ≠ (.slice Ao24 t222.length co24 : Value).ownBlock ∧ some k_ ≠ (.slice Ao35 t225.length co35 : Value).ownBlock ∧ some k_ ≠ (.slice Ao29 t228.length co29 : Value).ownBlock ∧ some k_ ≠ (.slice Ao32 t231.length co32 : Value).ownBlock ∧ some k_ ≠ (.slice Ao39 t239.length co39 : Value).ownBlock ∧ some k_ ≠ (.slice Ao40 t242.length co40 : Value).ownBlock ∧ k_ ≠ gb234 ∧ NN ≤ k_) (Kd.S_keptB (HO237.out) hkp (fun k_ hk_ hs_ => Or.elim hs_ (fun e_ => (hk_.1.1.1.1.2) e_) (fun e_ => (hk_.1.1.1.2) e_))) (fun k_ hk_ => ⟨hk_.1.1.1.1.1.1.1.1.2, hk_.1.1.1.1.1.1.1.2, hk_.1.1.1.1.1.1.2, hk_.1.1.1.1.1.2, hk_.1.1.1.1.2, hk_.1.1.2, hk_.1.2, hk_.1.1.1.2, hk_.1.1.1.1.1.1.1.1.1⟩)); replace HO241 := Aside0.mk (Kd.R_mono (ok' := fun k_ => some k_ ≠ (.slice Ao23 t219.length co23 : Value).ownBlock ∧ some k_ ≠ (.slice Ao24 t222.length co24 : Value).ownBlock ∧ some k_ ≠ (.slice Ao29 t228.length co29 : Value).ownBlock ∧ some k_ ≠ (.slice Ao32 t231.length co32 : Value).ownBlock ∧ some k_ ≠ (.slice Ao40 t242.length co40 : Value).ownBlock) (Kd.R_keptB (HO241.out) hkp (fun k_ hk_ hs_ => Or.elim hs_ (fun e_ => (hk_.1.2) e_) (fun e_ => (hk_.2) e_))) (fun k_ hk_ => ⟨hk_.1.1.1.1.2, hk_.1.1.1.2, hk_.1.1.2, hk_.1.2, hk_.1.1.1.1.1⟩)); replace HO244 := Aside0.mk (Kd.R_mono (ok' := fun k_ => some k_ ≠ (.slice Ao23 t219.length co23 : Value).ownBlock ∧ some k_ ≠ (.slice Ao24 t222.length co24 : Value).ownBlock ∧ some k_ ≠ (.slice Ao29 t228.length co29 : Value).ownBlock ∧ some k_ ≠ (.slice Ao32 t231.length co32 : Value).ownBlock ∧ some k_ ≠ (.slice Ao39 t239.length co39 : Value).ownBlock) (Kd.R_keptB (HO244.out) hkp (fun k_ hk_ hs_ => Or.elim hs_ (fun e_ => (hk_.1.2) e_) (fun e_ => (hk_.2) e_))) (fun k_ hk_ => ⟨hk_.1.1.1.1.2, hk_.1.1.1.2, hk_.1.1.2, hk_.1.2, hk_.1.1.1.1.1⟩)); replace HB := Aside0.mk (hb); (try clear hb); (try clear hkp); (try clear hy0); (try clear hy1)))
    (try simp only [Act.put, List.setIfInBounds_toArray, List.set_cons_zero, List.set_cons_succ])
    go_cut [42] (fun v42 wc => ∃ (kq : Nat) (x42_16 : Bool), v42 = .bool x42_16 ∧ Aside0 (laws_FnExactRows.j0 kq t225 t235 x42_16 l0_0 l0_1 = some r) ∧ Aside0 (kq ≤ k) ∧ Aside0 (Kd.S k28 28 wc w.heap.size (fun k_ => some k_ ≠ ((.slice Ao34 t235.length co34) : Value).ownBlock ∧ some k_ ≠ ((.slice Ao29 t228.length co29) : Value).ownBlock ∧ some k_ ≠ ((.slice Ao32 t231.length co32) : Value).ownBlock ∧ k_ ≠ gb234 ∧ k_ < NN) (.slice Ao35 t225.length co35) t225) ∧ Aside0 (Kd.S k28 28 wc w.heap.size (fun k_ => some k_ ≠ ((.slice Ao35 t225.length co35) : Value).ownBlock ∧ some k_ ≠ ((.slice Ao29 t228.length co29) : Value).ownBlock ∧ some k_ ≠ ((.slice Ao32 t231.length co32) : Value).ownBlock ∧ k_ ≠ gb234 ∧ NN ≤ k_) (.slice Ao34 t235.length co34) t235) ∧ Aside0 (Kd.R (Kd.int .i64) 3 wc w.heap.size (fun k_ => some k_ ≠ ((.slice Ao32 t231.length co32) : Value).ownBlock) (.slice Ao29 t228.length co29) t247) ∧ Aside0 (Kd.R (Kd.int .i64) 3 wc w.heap.size (fun k_ => some k_ ≠ ((.slice Ao29 t228.length co29) : Value).ownBlock) (.slice Ao32 t231.length co32) t248) ∧ Aside0 (wc.heap[gb217]? = some (.cells #[(.slice A0_0 l0_0.length c0_0), (.slice A0_1 l0_1.length c0_1)] 24 (0, 0))) ∧ Aside0 (wc.heap[gb234]? = some (.cells #[(.slice Ao29 t228.length co29), (.slice Ao32 t231.length co32)] 28 (0, 0))) ∧ Aside0 (Below w.heap.size w wc))
    case first =>
     have H := HC17.out
     clear HC17
     by_cases c44 : t246 < 0
     ·
      rw [if_pos c44] at H
      have c44b0 : decide (t246 < 0) = true := decide_eq_true c44
      clear c44
      (first | rw [c44b0] | (simp only [i64_w, i32_w]; rw [c44b0]) | rw [c44b1] | (simp only [i64_w, i32_w]; rw [c44b1]) | skip)
      have hz_ : ∀ kz, laws_FnExactRows.j0 kz t225 t235 true l0_0 l0_1 = some r → r = false := by intro kz hz; cases kz with | zero => exact absurd hz (by simp [laws_FnExactRows.j0]) | succ kz => simp only [laws_FnExactRows.j0] at hz; first | (rw [if_pos rfl] at hz; exact (Option.some.inj hz).symm) | (simp at hz; exact hz.symm) | (simp at hz; exact hz)
      exact absurd (HT.out.symm.trans (hz_ _ H)) (by decide)
     ·
      rw [if_neg c44] at H
      have c44b0 : decide (t246 < 0) = false := decide_eq_false c44
      clear c44
      (first | rw [c44b0] | (simp only [i64_w, i32_w]; rw [c44b0]) | rw [c44b1] | (simp only [i64_w, i32_w]; rw [c44b1]) | skip)
      replace H := Option.bind_eq_some_iff.mp H
      obtain ⟨t249, A450, H⟩ := H
      replace H : (laws_FnExactRows.j0 k t225 t235 (!t249) l0_0 l0_1) = some r := H
      have A45 := Aside0.mk A450
      clear A450
      have H' := Aside0.mk H
      clear H
      go_wp2_with (first | (go_at_call 9; (repeat rw [i64_w]); (with_reducible refine (laws_eqArrayS.calls k _ _ t235 _ _ t225 t249 _ ?side1 ?side2 ?side3 ?side4 A45.out).mono ?_); (case side1 => exact cU (Kd.S_reads' HO237.out).2.2); (case side2 => exact (Kd.S_reads' HO237.out).2.1); (case side3 => exact cU (Kd.S_reads' HO227.out).2.2); (case side4 => exact (Kd.S_reads' HO227.out).2.1); rintro e w46 ⟨rfl, hb⟩; replace HO221 := Aside0.mk (Kd.R_below (RU HO221.out) hb); replace HO224 := Aside0.mk (Kd.R_below (RU HO224.out) hb); replace HO227 := Aside0.mk (Kd.S_below (SU HO227.out) hb); replace HO230 := Aside0.mk (Kd.R_below (RU HO230.out) hb); replace HO233 := Aside0.mk (Kd.R_below (RU HO233.out) hb); replace HO237 := Aside0.mk (Kd.S_below (SU HO237.out) hb); replace HO241 := Aside0.mk (Kd.R_below (RU HO241.out) hb); replace HO244 := Aside0.mk (Kd.R_below (RU HO244.out) hb); replace BK217 := Aside0.mk (kB BK217.out hb); replace BK234 := Aside0.mk (kB BK234.out hb); replace HB := Aside0.mk (below_step (bS2 HB.out GE217.out GE234.out) hb); (try clear hb); (try clear hb2); (try clear hk); (try clear hi)))
      go_meet
      case rel => exact ⟨_, (!t249), (by first | rfl | (simp; done) | (simp [*]; done)), H', ⟨by first | omega | exact Nat.le_refl _⟩, ⟨by refine SU ?_; exact Kd.S_mono HO227.out (fun _ hk => ⟨hk.2.2.2.2.1, ⟨hk.2.2.1, ⟨hk.2.2.2.1, hk.2.2.2.2.2.2.2⟩⟩⟩)⟩, ⟨by refine SU ?_; exact Kd.S_mono HO237.out (fun _ hk => ⟨hk.2.2.1, ⟨hk.2.2.2.1, ⟨hk.2.2.2.2.1, hk.2.2.2.2.2.2.2⟩⟩⟩)⟩, ⟨by refine RU ?_; exact Kd.R_mono HO230.out (fun _ hk => hk.1.1.1.1)⟩, ⟨by refine RU ?_; exact Kd.R_mono HO233.out (fun _ hk => hk.1.1.1.1)⟩, ⟨by refine kU ?_; exact BK217.out⟩, ⟨by refine kU ?_; exact BK234.out⟩, ⟨by exact bS2 HB.out GE217.out GE234.out⟩⟩
    case rest =>
     clear HC17
     try clear c1
     try clear p2
     try clear c3
     try clear c3b0
     try clear c4
     try clear c5
     try clear c6
     try clear c7
     try clear c8
     try clear c9
     try clear c10
     try clear c11
     try clear c12
     try clear c15
     try clear c30
     try clear c44
     try clear c44b0
     try clear hcz19_0
     try clear hcz19_1
     try clear hcz21_0
     try clear hcz21_1
     try clear hcz26_0
     try clear hcz26_1
     try clear hcz31_0
     try clear hcz31_1
     try clear hcz42_0
     try clear hcz42_1
     try clear hcz5_0
     try clear hcz5_1
     try clear hfz19_0
     try clear hfz19_1
     try clear hfz21_0
     try clear hfz21_1
     try clear hfz26_0
     try clear hfz26_1
     try clear hfz31_0
     try clear hfz31_1
     try clear hfz42_0
     try clear hfz42_1
     try clear hfz5_0
     try clear hfz5_1
     obtain ⟨kq, x42_16, rfl, HA, HJ16, HO_4, HO_6, HO_235000, HO_235001, BK217, BK234, HB⟩ := hcut
     have hl235000_16 := (Kd.R_reads' HO_235000.out).1
     rw [hl235000_16] at HO_235000
     (try simp only [hl235000_16])
     (try simp only [hl235000_16] at BK217)
     (try simp only [hl235000_16] at BK234)
     (try simp only [hl235000_16] at HO_4)
     (try simp only [hl235000_16] at HO_6)
     (try simp only [hl235000_16] at HO_235001)
     have hl235001_16 := (Kd.R_reads' HO_235001.out).1
     rw [hl235001_16] at HO_235001
     (try simp only [hl235001_16])
     (try simp only [hl235001_16] at BK217)
     (try simp only [hl235001_16] at BK234)
     (try simp only [hl235001_16] at HO_4)
     (try simp only [hl235001_16] at HO_6)
     (try simp only [hl235001_16] at HO_235000)
     cases kq with
     | zero => exact absurd HA.out (by simp [laws_FnExactRows.j0])
     | succ kj16 =>
      have H := HA.out
      clear HA
      simp only [laws_FnExactRows.j0] at H
      by_cases c47 : x42_16 = true
      ·
       subst c47
       have H1 : (some false) = some r := by rw [if_pos rfl] at H; exact H
       clear H
       have H := H1
       clear H1
       obtain rfl := Option.some.inj H
       exact absurd HT.out (by decide)
      ·
       replace c47 := Bool.eq_false_iff.mpr c47
       subst c47
       have H1 : ((laws_markArrayS.f kj16 t235 1).bind fun bt250 => ((laws_heldArrayS.f kj16 bt250.2 1).bind fun t251 => (if t251 < 0 then (some false) else (if t251 = bt250.1 then ((laws_toArray.f kj16 l0_0 l0_1).bind fun bt252 => ((impl_Rows.f kj16 bt252.1 bt252.2).bind fun t258 => ((laws_eqArrayS.f kj16 t258 t225).bind fun t261 => (if t261 = true then ((laws_heldArrayS.f kj16 bt250.2 1).bind fun t262 => (if t262 < 0 then (some false) else (if t262 = bt250.1 then (some true) else (some false)))) else (some false))))) else (some false))))) = some r := by rw [if_neg (show ¬ (false = true) by decide)] at H; exact H
       clear H
       have H := H1
       clear H1
       replace H := Option.bind_eq_some_iff.mp H
       obtain ⟨⟨t250, t250b⟩, A480, H⟩ := H
       replace H : ((laws_heldArrayS.f kj16 t250b 1).bind fun t251 => (if t251 < 0 then (some false) else (if t251 = t250 then ((laws_toArray.f kj16 l0_0 l0_1).bind fun bt252 => ((impl_Rows.f kj16 bt252.1 bt252.2).bind fun t258 => ((laws_eqArrayS.f kj16 t258 t225).bind fun t261 => (if t261 = true then ((laws_heldArrayS.f kj16 t250b 1).bind fun t262 => (if t262 < 0 then (some false) else (if t262 = t250 then (some true) else (some false)))) else (some false))))) else (some false)))) = some r := H
       have A48 := Aside0.mk A480
       clear A480
       replace H := Option.bind_eq_some_iff.mp H
       obtain ⟨t251, A490, H⟩ := H
       replace H : (if t251 < 0 then (some false) else (if t251 = t250 then ((laws_toArray.f kj16 l0_0 l0_1).bind fun bt252 => ((impl_Rows.f kj16 bt252.1 bt252.2).bind fun t258 => ((laws_eqArrayS.f kj16 t258 t225).bind fun t261 => (if t261 = true then ((laws_heldArrayS.f kj16 t250b 1).bind fun t262 => (if t262 < 0 then (some false) else (if t262 = t250 then (some true) else (some false)))) else (some false))))) else (some false))) = some r := H
       have A49 := Aside0.mk A490
       clear A490
       by_cases c50 : t251 < 0
       ·
        rw [if_pos c50] at H
        have c50b0 : decide (t251 < 0) = true := decide_eq_true c50
        clear c50
        obtain rfl := Option.some.inj H
        exact absurd HT.out (by decide)
       ·
        rw [if_neg c50] at H
        have c50b0 : decide (t251 < 0) = false := decide_eq_false c50
        clear c50
        by_cases c51 : t251 = t250
        ·
         rw [if_pos c51] at H
         have c51b0 : (t251 == t250) = true := beq_iff_eq.mpr c51
         have c51b1 : (t251 != t250) = false := bne_eq_false_iff_eq.mpr c51
         clear c51
         replace H := Option.bind_eq_some_iff.mp H
         obtain ⟨⟨t252, t255⟩, A520, H⟩ := H
         replace H : ((impl_Rows.f kj16 t252 t255).bind fun t258 => ((laws_eqArrayS.f kj16 t258 t225).bind fun t261 => (if t261 = true then ((laws_heldArrayS.f kj16 t250b 1).bind fun t262 => (if t262 < 0 then (some false) else (if t262 = t250 then (some true) else (some false)))) else (some false)))) = some r := H
         have A52 := Aside0.mk A520
         clear A520
         replace H := Option.bind_eq_some_iff.mp H
         obtain ⟨t258, A530, H⟩ := H
         replace H : ((laws_eqArrayS.f kj16 t258 t225).bind fun t261 => (if t261 = true then ((laws_heldArrayS.f kj16 t250b 1).bind fun t262 => (if t262 < 0 then (some false) else (if t262 = t250 then (some true) else (some false)))) else (some false))) = some r := H
         have A53 := Aside0.mk A530
         clear A530
         replace H := Option.bind_eq_some_iff.mp H
         obtain ⟨t261, A540, H⟩ := H
         replace H : (if t261 = true then ((laws_heldArrayS.f kj16 t250b 1).bind fun t262 => (if t262 < 0 then (some false) else (if t262 = t250 then (some true) else (some false)))) else (some false)) = some r := H
         have A54 := Aside0.mk A540
         clear A540
         by_cases c55 : t261 = true
         ·
          subst c55
          have H1 : ((laws_heldArrayS.f kj16 t250b 1).bind fun t262 => (if t262 < 0 then (some false) else (if t262 = t250 then (some true) else (some false)))) = some r := by rw [if_pos rfl] at H; exact H
          clear H
          have H := H1
          clear H1
          replace H := Option.bind_eq_some_iff.mp H
          obtain ⟨t262, A560, H⟩ := H
          replace H : (if t262 < 0 then (some false) else (if t262 = t250 then (some true) else (some false))) = some r := H
          have A56 := Aside0.mk A560
          clear A560
          by_cases c57 : t262 < 0
          ·
           rw [if_pos c57] at H
           have c57b0 : decide (t262 < 0) = true := decide_eq_true c57
           clear c57
           obtain rfl := Option.some.inj H
           exact absurd HT.out (by decide)
          ·
           rw [if_neg c57] at H
           have c57b0 : decide (t262 < 0) = false := decide_eq_false c57
           clear c57
           by_cases c58 : t262 = t250
           ·
            rw [if_pos c58] at H
            have c58b0 : (t262 == t250) = true := beq_iff_eq.mpr c58
            have c58b1 : (t262 != t250) = false := bne_eq_false_iff_eq.mpr c58
            clear c58
            obtain rfl := Option.some.inj H
            go_wp2_with (first | ((with_reducible refine gate_callee (f := 12) rfl ?_); refine goesL_ (some 45) rfl rfl Try.func12 (by kernel_rfl) rfl #[.slice Ao34 t235.length co34, .int .i64 1] rfl lU ?_; (with_reducible refine (laws_markArrayS.calls kj16 (fun k_ => (some k_ ≠ (.slice Ao35 t225.length co35 : Value).ownBlock ∧ some k_ ≠ (.slice Ao29 t247.length co29 : Value).ownBlock ∧ some k_ ≠ (.slice Ao32 t248.length co32 : Value).ownBlock ∧ k_ ≠ gb234 ∧ NN ≤ k_) ∧ k_ ≠ gb217) (.slice Ao34 t235.length co34) t235 1 t250 t250b w _ ?side1 ?side2 A48.out).mono ?_); (case side1 => exact bS2 HB.out GE217.out GE234.out); (case side2 => exact Kd.S_types HO_6.out BK217.out (by decide)); rintro e wk ⟨rfl, hy0, hb, hkp⟩; refine ⟨_, rfl, ?_⟩; replace HO_4 := Aside0.mk (Kd.S_kept HO_4.out hkp (fun k_ hk_ hs_ => by have h1_ := hk_.2.2.2.2; have h2_ := hs_.1.2.2.2.2; omega)); replace HO_235000 := Aside0.mk (Kd.R_mono (Kd.R_kept (Kd.R_tight rfl HO_235000.out) hkp (fun k_ hk_ hs_ => hs_.1.2.1 hk_)) (fun k_ hk_ => HO_235000.out.1 k_ hk_.symm)); replace HO_235001 := Aside0.mk (Kd.R_mono (Kd.R_kept (Kd.R_tight rfl HO_235001.out) hkp (fun k_ hk_ hs_ => hs_.1.2.2.1 hk_)) (fun k_ hk_ => HO_235001.out.1 k_ hk_.symm)); replace BK217 := Aside0.mk (blk_kept (kU BK217.out) hkp (fun hs_ => hs_.2 rfl)); replace BK234 := Aside0.mk (blk_kept (kU BK234.out) hkp (fun hs_ => hs_.1.2.2.2.1 rfl)); replace HO_6 := Aside0.mk hy0; replace HB := Aside0.mk hb; clear hb; clear hkp; clear hy0; have hl6_ := (Kd.S_reads' HO_6.out).1; rw [hl6_] at HO_6; rw [hl6_]) | ((with_reducible refine gate_callee (f := 13) rfl ?_); refine goesL_ (some 48) rfl rfl Try.func13 (by kernel_rfl) rfl #[.slice Ao34 t250b.length co34, .int .i64 1] rfl lU ?_; (with_reducible refine (laws_heldArrayS.calls kj16 _ _ t250b 1 t251 _ ?side1 ?side2 A49.out).mono ?_); (case side1 => exact cU (Kd.S_reads' HO_6.out).2.2); (case side2 => exact (Kd.S_reads' HO_6.out).2.1); rintro e w' ⟨rfl, ⟨nd, rfl⟩⟩; refine ⟨_, rfl, ?_⟩; have hnb59 := NB217_234.out; have hnc59 := NB234_217.out; have hcz60_0 : wk.cell? ⟨gb217, 0, none⟩ = some (.slice A0_0 l0_0.length c0_0) := (blk_cell BK217.out 0).trans rfl; have hcz60_1 : wk.cell? ⟨gb217, 1, none⟩ = some (.slice A0_1 l0_1.length c0_1) := (blk_cell BK217.out 1).trans rfl; have hfz60_0 := blk_frozen BK217.out 0; have hfz60_1 := blk_frozen BK217.out 1) | ((with_reducible refine gate_callee (f := 7) rfl ?_); refine goesL_ (some 55) rfl rfl Try.func7 (by kernel_rfl) rfl #[.agg #[.slice A0_0 l0_0.length c0_0, .slice A0_1 l0_1.length c0_1]] rfl lU ?_; (with_reducible refine (laws_toArray.calls kj16 _ _ l0_0 _ _ l0_1 t252 t255 _ ?side1 ?side2 ?side3 ?side4 A52.out).mono ?_); (case side1 => repeat (first | exact (Kd.C_below HR0_0.out (bS2 HB.out GE217.out GE234.out)) | (with_reducible refine Kd.C_alloc ?_ _) | (with_reducible refine Kd.C_drewN ?_ _) | (with_reducible refine Kd.C_drew ?_))); (case side2 => exact HC0_0.out); (case side3 => repeat (first | exact (Kd.C_below HR0_1.out (bS2 HB.out GE217.out GE234.out)) | (with_reducible refine Kd.C_alloc ?_ _) | (with_reducible refine Kd.C_drewN ?_ _) | (with_reducible refine Kd.C_drew ?_))); (case side4 => exact HC0_1.out); rintro e w61 ⟨v253, v256, rfl, ho0, ho1, hb⟩; refine ⟨_, rfl, ?_⟩; replace HO_4 := Aside0.mk (Kd.S_mono (Kd.S_told (Kd.S_told (Kd.S_old (SU HO_4.out) hb) (Kd.R_base ho0)) (Kd.R_base ho1)) (fun _ h_ => h_.1)); replace HO_6 := Aside0.mk (Kd.S_mono (Kd.S_told (Kd.S_told (Kd.S_old (SU HO_6.out) hb) (Kd.R_base ho0)) (Kd.R_base ho1)) (fun _ h_ => h_.1)); have HO254 := Aside0.mk (Kd.R_lower (Kd.R_new' (Kd.R_new' ho0 (Kd.R_lt (RU HO_235000.out))) (Kd.R_lt (RU HO_235001.out))) (below_size (bS2 HB.out GE217.out GE234.out))); have HO257 := Aside0.mk (Kd.R_lower (Kd.R_new' (Kd.R_new' ho1 (Kd.R_lt (RU HO_235000.out))) (Kd.R_lt (RU HO_235001.out))) (below_size (bS2 HB.out GE217.out GE234.out))); replace HO_235000 := Aside0.mk (Kd.R_mono (Kd.R_told (Kd.R_told (Kd.R_old (RU HO_235000.out) hb) (Kd.R_base ho0)) (Kd.R_base ho1)) (fun _ h_ => h_.1)); replace HO_235001 := Aside0.mk (Kd.R_mono (Kd.R_told (Kd.R_told (Kd.R_old (RU HO_235001.out) hb) (Kd.R_base ho0)) (Kd.R_base ho1)) (fun _ h_ => h_.1)); replace BK217 := Aside0.mk (kB BK217.out hb); replace BK234 := Aside0.mk (kB BK234.out hb); replace HB := Aside0.mk (below_step (bS2 HB.out GE217.out GE234.out) hb); (try clear hb); (try clear hb2); (try clear hk); (try clear hi); (try clear ho0); (try clear ho1); obtain ⟨Ao62, co62, eo62⟩ := Kd.R_slice HO254.out; subst eo62; obtain ⟨Ao63, co63, eo63⟩ := Kd.R_slice HO257.out; subst eo63) | ((with_reducible refine gate_callee (f := 8) rfl ?_); refine goesL_ (some 56) rfl rfl Try.func8 (by kernel_rfl) rfl #[.agg #[.slice Ao62 t252.length co62, .slice Ao63 t255.length co63]] rfl lU ?_; (with_reducible refine (impl_Rows.calls kj16 _ _ t252 _ _ t255 t258 _ ?side1 ?side2 ?side3 ?side4 A53.out).mono ?_); (case side1 => exact cU (Kd.R_reads' HO254.out).2.2); (case side2 => exact (Kd.R_reads' HO254.out).2.1); (case side3 => exact cU (Kd.R_reads' HO257.out).2.2); (case side4 => exact (Kd.R_reads' HO257.out).2.1); rintro e w64 ⟨v259, rfl, ho0, hb⟩; refine ⟨_, rfl, ?_⟩; have HO260 := Aside0.mk (Kd.S_lower (Kd.S_newB (Kd.S_new' (Kd.S_new' (Kd.S_new' (Kd.S_new' (Kd.S_new' (Kd.S_new' ho0 (Kd.S_lt (SU HO_4.out))) (Kd.S_lt (SU HO_6.out))) (Kd.R_lt (RU HO_235000.out))) (Kd.R_lt (RU HO_235001.out))) (Kd.R_lt (RU HO254.out))) (Kd.R_lt (RU HO257.out))) (g := gb234) (o := .cells #[.slice Ao29 t247.length co29, .slice Ao32 t248.length co32] 28 (0, 0)) (kU BK234.out)) (below_size (bS2 HB.out GE217.out GE234.out))); replace HO_4 := Aside0.mk (Kd.S_elder' (SU HO_4.out) (Kd.S_base ho0) hb); replace HO_6 := Aside0.mk (Kd.S_elder' (SU HO_6.out) (Kd.S_base ho0) hb); replace HO_235000 := Aside0.mk (Kd.R_below (RU HO_235000.out) hb); replace HO_235001 := Aside0.mk (Kd.R_below (RU HO_235001.out) hb); replace HO254 := Aside0.mk (Kd.R_below (RU HO254.out) hb); replace HO257 := Aside0.mk (Kd.R_below (RU HO257.out) hb); replace BK217 := Aside0.mk (kB BK217.out hb); replace BK234 := Aside0.mk (kB BK234.out hb); replace HB := Aside0.mk (below_step (bS2 HB.out GE217.out GE234.out) hb); (try clear hb); (try clear hb2); (try clear hk); (try clear hi); (try clear ho0); obtain ⟨Ao65, co65, eo65⟩ := Kd.S_slice HO260.out; subst eo65) | ((with_reducible refine gate_callee (f := 9) rfl ?_); refine goesL_ (some 59) rfl rfl Try.func9 (by kernel_rfl) rfl #[.slice Ao65 t258.length co65, .slice Ao35 t225.length co35] rfl lU ?_; (with_reducible refine (laws_eqArrayS.calls kj16 _ _ t258 _ _ t225 true _ ?side1 ?side2 ?side3 ?side4 A54.out).mono ?_); (case side1 => exact cU (Kd.S_reads' HO260.out).2.2); (case side2 => exact (Kd.S_reads' HO260.out).2.1); (case side3 => exact cU (Kd.S_reads' HO_4.out).2.2); (case side4 => exact (Kd.S_reads' HO_4.out).2.1); rintro e w66 ⟨rfl, hb⟩; refine ⟨_, rfl, ?_⟩; replace HO_4 := Aside0.mk (Kd.S_below (SU HO_4.out) hb); replace HO_6 := Aside0.mk (Kd.S_below (SU HO_6.out) hb); replace HO_235000 := Aside0.mk (Kd.R_below (RU HO_235000.out) hb); replace HO_235001 := Aside0.mk (Kd.R_below (RU HO_235001.out) hb); replace HO254 := Aside0.mk (Kd.R_below (RU HO254.out) hb); replace HO257 := Aside0.mk (Kd.R_below (RU HO257.out) hb); replace HO260 := Aside0.mk (Kd.S_below (SU HO260.out) hb); replace BK217 := Aside0.mk (kB BK217.out hb); replace BK234 := Aside0.mk (kB BK234.out hb); replace HB := Aside0.mk (below_step (bS2 HB.out GE217.out GE234.out) hb); (try clear hb); (try clear hb2); (try clear hk); (try clear hi)) | ((with_reducible refine gate_callee (f := 13) rfl ?_); refine goesL_ (some 63) rfl rfl Try.func13 (by kernel_rfl) rfl #[.slice Ao34 t250b.length co34, .int .i64 1] rfl lU ?_; (with_reducible refine (laws_heldArrayS.calls kj16 _ _ t250b 1 t262 _ ?side1 ?side2 A56.out).mono ?_); (case side1 => exact cU (Kd.S_reads' HO_6.out).2.2); (case side2 => exact (Kd.S_reads' HO_6.out).2.1); rintro e w' ⟨rfl, ⟨nd, rfl⟩⟩; refine ⟨_, rfl, ?_⟩))
            go_ret
            exact ⟨by first | rfl | (simp [errW_none, errW_some] <;> rfl) | (simp [*, errW_none, errW_some] <;> rfl), by exact bS2 HB.out GE217.out GE234.out⟩
           ·
            rw [if_neg c58] at H
            have c58b0 : (t262 == t250) = false := beq_eq_false_iff_ne.mpr c58
            have c58b1 : (t262 != t250) = true := bne_iff_ne.mpr c58
            obtain rfl := Option.some.inj H
            exact absurd HT.out (by decide)
         ·
          replace c55 := Bool.eq_false_iff.mpr c55
          subst c55
          have H1 : (some false) = some r := by rw [if_neg (show ¬ (false = true) by decide)] at H; exact H
          clear H
          have H := H1
          clear H1
          obtain rfl := Option.some.inj H
          exact absurd HT.out (by decide)
        ·
         rw [if_neg c51] at H
         have c51b0 : (t251 == t250) = false := beq_eq_false_iff_ne.mpr c51
         have c51b1 : (t251 != t250) = true := bne_iff_ne.mpr c51
         obtain rfl := Option.some.inj H
         exact absurd HT.out (by decide)
   ·
    replace c15 := Bool.eq_false_iff.mpr c15
    subst c15
    have H1 : (some false) = some r := by rw [if_neg (show ¬ (false = true) by decide)] at H; exact H
    clear H
    have H := H1
    clear H1
    obtain rfl := Option.some.inj H
    exact absurd HT.out (by decide)
  ·
   replace c12 := Bool.eq_false_iff.mpr c12
   subst c12
   have H1 : (some false) = some r := by rw [if_neg (show ¬ (false = true) by decide)] at H; exact H
   clear H
   have H := H1
   clear H1
   obtain rfl := Option.some.inj H
   exact absurd HT.out (by decide)

end Go.Proofs.Ytnpcjppcoejgmaa.PFnExactRows
