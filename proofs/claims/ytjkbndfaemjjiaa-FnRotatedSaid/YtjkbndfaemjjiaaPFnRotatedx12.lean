/- The walk of what a law reaches, for the law's row: written by a program of this session; it has no condition of its own. -/
import Derived.Test.YtjkbndfaemjjiaaPFnRotatedx0
import Derived.Test.YtjkbndfaemjjiaaQ
import Derived.Test.YtjkbndfaemjjiaaPFnRotatedx1
import Derived.Test.YtjkbndfaemjjiaaPFnRotatedx4
import Derived.Test.YtjkbndfaemjjiaaPFnRotatedx6
import Derived.Test.YtjkbndfaemjjiaaPFnRotatedx7
import Derived.Test.YtjkbndfaemjjiaaPFnRotatedx10
import Derived.Test.YtjkbndfaemjjiaaPFnRotatedx11
namespace Go.Proofs.Ytjkbndfaemjjiaa.PFnRotated
open Go.RowKit Go.Proofs.YtjkbndfaemjjiaaW.PrintWords Go.Proofs.YtjkbndfaemjjiaaW.PrintLast Go.Proofs.YtjkbndfaemjjiaaW.PrintMore Go.Proofs.YtjkbndfaemjjiaaQ
attribute [local go_sem] max2_int min2_int max_two min_two max_three min_three max_four min_four   -- for this text's walks alone
set_option linter.unusedVariables false
set_option linter.unusedSimpArgs false

/-! ### laws_FnRotated: function 4 -/
mutual
def laws_FnRotated.j0 : Nat → Bool → List Int → List Int → List Int → List Int → List Int → List Int → Option (Bool)
 | 0, _, _, _, _, _, _, _ => none
 | k + 1, x52, x588000, x588001, x589000, x589001, x597000, x597001 => if x52 = true then ((laws_sameArray.f k x589000 x589001 x597000 x597001).bind fun t606 => (some t606)) else ((impl_Rows.f k x589000 x589001).bind fun t607 => ((impl_Rows.f k x597000 x597001).bind fun t610 => (if 0 < (x588001.length : Int) then (if (t607.length : Int) = 0 then (none) else (laws_FnRotated.l0 k t607 t610 (t607.length : Int) (Int.tmod (wrap64 ((Int.tmod (rd x588001 0) (t607.length : Int)) + (t607.length : Int))) (t607.length : Int)) 0 x589000 x589001 x597000 x597001)) else (none))))
def laws_FnRotated.l0 : Nat → List (S26) → List (S26) → Int → Int → Int → List Int → List Int → List Int → List Int → Option (Bool)
 | 0, _, _, _, _, _, _, _, _, _ => none
 | k + 1, x9, x10, x11, x12, x13, x589000, x589001, x597000, x597001 => if x13 < x11 then (if 0 ≤ x13 then (if x13 < (x10.length : Int) then (if x11 = 0 then (none) else (if 0 ≤ (Int.tmod (wrap64 (x13 + x12)) x11) then (if (Int.tmod (wrap64 (x13 + x12)) x11) < (x9.length : Int) then ((laws_sameArray.f k ((rd_T26 x10 x13).f0) ((rd_T26 x10 x13).f1) ((rd_T26 x9 (Int.tmod (wrap64 (x13 + x12)) x11)).f0) ((rd_T26 x9 (Int.tmod (wrap64 (x13 + x12)) x11)).f1)).bind fun t616 => (if t616 = true then (laws_FnRotated.l0 k x9 x10 x11 x12 (wrap64 (x13 + 1)) x589000 x589001 x597000 x597001) else (some false))) else (none)) else (none))) else (none)) else (none)) else ((laws_sameInts.f k x589000 x597000).bind fun t617 => (some t617))
end
def laws_FnRotated.f (k : Nat) (l0 : List Int) : Option (Bool) := (laws_big.f l0).bind fun t574 => (if t574 = true then (some true) else ((spec_DrawRotate.f k l0).bind fun bt575 => ((impl_Rotate.f k bt575.1 bt575.2.1 bt575.2.2.1 bt575.2.2.2).bind fun bt589 => ((spec_Rotate.f k bt575.1 bt575.2.1 bt575.2.2.1 bt575.2.2.2).bind fun bt597 => (if bt589.2.2 = bt597.2.2 then (if bt589.2.2 = 0 then (if (bt575.2.2.1.length : Int) = 0 then (laws_FnRotated.j0 k true bt575.1 bt575.2.1 bt575.2.2.1 bt575.2.2.2 bt589.1 bt589.2.1) else (if 0 < (bt575.2.2.1.length : Int) then (laws_FnRotated.j0 k ((rd bt575.2.2.1 0) == 0) bt575.1 bt575.2.1 bt575.2.2.1 bt575.2.2.2 bt589.1 bt589.2.1) else (none))) else (some ((bt589.2.1.length : Int) == 0))) else (some false))))))
theorem laws_FnRotated.mono_l : ∀ k, (∀ y0 y1 y2 y3 y4 y5 y6, LeO (laws_FnRotated.j0 k y0 y1 y2 y3 y4 y5 y6) (laws_FnRotated.j0 (k + 1) y0 y1 y2 y3 y4 y5 y6)) ∧ (∀ y0 y1 y2 y3 y4 y5 y6 y7 y8, LeO (laws_FnRotated.l0 k y0 y1 y2 y3 y4 y5 y6 y7 y8) (laws_FnRotated.l0 (k + 1) y0 y1 y2 y3 y4 y5 y6 y7 y8))
 | 0 => ⟨fun _ _ _ _ _ _ _ r h => by simp [laws_FnRotated.j0] at h, fun _ _ _ _ _ _ _ _ _ r h => by simp [laws_FnRotated.l0] at h⟩
 | k + 1 => by
  obtain ⟨ih0, ih1⟩ := laws_FnRotated.mono_l k
  refine ⟨?_, ?_⟩
  ·
   intro y0 y1 y2 y3 y4 y5 y6
   unfold laws_FnRotated.j0
   repeat' first
   | (with_reducible exact ih0 _ _ _ _ _ _ _)
   | (with_reducible exact ih1 _ _ _ _ _ _ _ _ _)
   | (with_reducible exact impl_Rotate.mono _ _ _ _ _)
   | (with_reducible exact impl_Rows.mono _ _ _)
   | (with_reducible exact laws_sameArray.mono _ _ _ _ _)
   | (with_reducible exact laws_sameInts.mono _ _ _)
   | (with_reducible exact spec_DrawRotate.mono _ _)
   | (with_reducible exact spec_Rotate.mono _ _ _ _ _)
   | (with_reducible exact LeO.refl _)
   | (with_reducible exact LeO.none _)
   | (with_reducible refine LeO.ite ?_ ?_)
   | (with_reducible refine LeO.bind ?_ (fun _ => ?_))
   | exact ih0 _ _ _ _ _ _ _
   | exact ih1 _ _ _ _ _ _ _ _ _
   | exact impl_Rotate.mono _ _ _ _ _
   | exact impl_Rows.mono _ _ _
   | exact laws_sameArray.mono _ _ _ _ _
   | exact laws_sameInts.mono _ _ _
   | exact spec_DrawRotate.mono _ _
   | exact spec_Rotate.mono _ _ _ _ _
   | exact LeO.none _
   | refine LeO.ite ?_ ?_
   | refine LeO.bind ?_ (fun _ => ?_)
  ·
   intro y0 y1 y2 y3 y4 y5 y6 y7 y8
   unfold laws_FnRotated.l0
   repeat' first
   | (with_reducible exact ih0 _ _ _ _ _ _ _)
   | (with_reducible exact ih1 _ _ _ _ _ _ _ _ _)
   | (with_reducible exact impl_Rotate.mono _ _ _ _ _)
   | (with_reducible exact impl_Rows.mono _ _ _)
   | (with_reducible exact laws_sameArray.mono _ _ _ _ _)
   | (with_reducible exact laws_sameInts.mono _ _ _)
   | (with_reducible exact spec_DrawRotate.mono _ _)
   | (with_reducible exact spec_Rotate.mono _ _ _ _ _)
   | (with_reducible exact LeO.refl _)
   | (with_reducible exact LeO.none _)
   | (with_reducible refine LeO.ite ?_ ?_)
   | (with_reducible refine LeO.bind ?_ (fun _ => ?_))
   | exact ih0 _ _ _ _ _ _ _
   | exact ih1 _ _ _ _ _ _ _ _ _
   | exact impl_Rotate.mono _ _ _ _ _
   | exact impl_Rows.mono _ _ _
   | exact laws_sameArray.mono _ _ _ _ _
   | exact laws_sameInts.mono _ _ _
   | exact spec_DrawRotate.mono _ _
   | exact spec_Rotate.mono _ _ _ _ _
   | exact LeO.none _
   | refine LeO.ite ?_ ?_
   | refine LeO.bind ?_ (fun _ => ?_)
theorem laws_FnRotated.mono : ∀ a0 k, LeO (laws_FnRotated.f k a0) (laws_FnRotated.f (k + 1) a0) := by
 intro a0 k
 obtain ⟨ih0, ih1⟩ := laws_FnRotated.mono_l k
 unfold laws_FnRotated.f
 repeat' first
   | (with_reducible exact ih0 _ _ _ _ _ _ _)
   | (with_reducible exact ih1 _ _ _ _ _ _ _ _ _)
   | (with_reducible exact impl_Rotate.mono _ _ _ _ _)
   | (with_reducible exact impl_Rows.mono _ _ _)
   | (with_reducible exact laws_sameArray.mono _ _ _ _ _)
   | (with_reducible exact laws_sameInts.mono _ _ _)
   | (with_reducible exact spec_DrawRotate.mono _ _)
   | (with_reducible exact spec_Rotate.mono _ _ _ _ _)
   | (with_reducible exact LeO.refl _)
   | (with_reducible exact LeO.none _)
   | (with_reducible refine LeO.ite ?_ ?_)
   | (with_reducible refine LeO.bind ?_ (fun _ => ?_))
   | exact ih0 _ _ _ _ _ _ _
   | exact ih1 _ _ _ _ _ _ _ _ _
   | exact impl_Rotate.mono _ _ _ _ _
   | exact impl_Rows.mono _ _ _
   | exact laws_sameArray.mono _ _ _ _ _
   | exact laws_sameInts.mono _ _ _
   | exact spec_DrawRotate.mono _ _
   | exact spec_Rotate.mono _ _ _ _ _
   | exact LeO.none _
   | refine LeO.ite ?_ ?_
   | refine LeO.bind ?_ (fun _ => ?_)
def laws_FnRotated.T18 : Bool × List (List Nat × List Nat) := (true, [([], []), ([], []), ([0, 1], [0, 1]), ([2], [2]), ([], []), ([], []), ([], []), ([5, 6], [5, 6]), ([], []), ([7, 8], [7, 8]), ([4, 9], [4, 9]), ([10], [10]), ([3, 11], [3, 11]), ([12], [12])])
def laws_FnRotated.B18 : List Nat := [0, 0, 3, 7, 0, 0, 0, 96, 0, 480, 1008, 2032, 4095, 8191]
theorem laws_FnRotated.tab18 : rtab .any (opsOf Try.f4 18) = laws_FnRotated.T18 := by kernel_rfl
theorem laws_FnRotated.bits18 : waitsOk laws_FnRotated.T18.2 laws_FnRotated.B18 = true := by kernel_rfl
set_option maxHeartbeats 8000000 in
set_option maxRecDepth 100000 in
theorem laws_FnRotated.calls (k : Nat) (A0 : Option Addr) (c0 : Nat) (l0 : List Int) (r : Bool) (w : World) (hr0 : Kd.C (Kd.int .u8) w A0 l0.length l0) (hc0 : l0.length ≤ c0) (h : laws_FnRotated.f k l0 = some r) (hT : r = true) :
  Calls Try.prog 4 #[.slice A0 l0.length c0] w fun e w' => e = .returned (.bool r) ∧ Below w.heap.size w w' := by
 have HT := Aside0.mk hT
 clear hT
 have hu26 := Try.underlying26
 have HR0 := Aside0.mk hr0
 have HC0 := Aside0.mk hc0
 clear hr0 hc0
 have HB := Aside0.mk (Below.refl w.heap.size w)
 have H : ((laws_big.f l0).bind fun t574 => (if t574 = true then (some true) else ((spec_DrawRotate.f k l0).bind fun bt575 => ((impl_Rotate.f k bt575.1 bt575.2.1 bt575.2.2.1 bt575.2.2.2).bind fun bt589 => ((spec_Rotate.f k bt575.1 bt575.2.1 bt575.2.2.1 bt575.2.2.2).bind fun bt597 => (if bt589.2.2 = bt597.2.2 then (if bt589.2.2 = 0 then (if (bt575.2.2.1.length : Int) = 0 then (laws_FnRotated.j0 k true bt575.1 bt575.2.1 bt575.2.2.1 bt575.2.2.2 bt589.1 bt589.2.1) else (if 0 < (bt575.2.2.1.length : Int) then (laws_FnRotated.j0 k ((rd bt575.2.2.1 0) == 0) bt575.1 bt575.2.1 bt575.2.2.1 bt575.2.2.2 bt589.1 bt589.2.1) else (none))) else (some ((bt589.2.1.length : Int) == 0))) else (some false))))))) = some r := h
 clear h
 replace H := Option.bind_eq_some_iff.mp H
 obtain ⟨t574, A20, H⟩ := H
 replace H : (if t574 = true then (some true) else ((spec_DrawRotate.f k l0).bind fun bt575 => ((impl_Rotate.f k bt575.1 bt575.2.1 bt575.2.2.1 bt575.2.2.2).bind fun bt589 => ((spec_Rotate.f k bt575.1 bt575.2.1 bt575.2.2.1 bt575.2.2.2).bind fun bt597 => (if bt589.2.2 = bt597.2.2 then (if bt589.2.2 = 0 then (if (bt575.2.2.1.length : Int) = 0 then (laws_FnRotated.j0 k true bt575.1 bt575.2.1 bt575.2.2.1 bt575.2.2.2 bt589.1 bt589.2.1) else (if 0 < (bt575.2.2.1.length : Int) then (laws_FnRotated.j0 k ((rd bt575.2.2.1 0) == 0) bt575.1 bt575.2.1 bt575.2.2.1 bt575.2.2.2 bt589.1 bt589.2.1) else (none))) else (some ((bt589.2.1.length : Int) == 0))) else (some false)))))) = some r := H
 have A2 := Aside0.mk A20
 clear A20
 by_cases c3 : t574 = true
 ·
  subst c3
  have H1 : (some true) = some r := by rw [if_pos rfl] at H; exact H
  clear H
  have H := H1
  clear H1
  obtain rfl := Option.some.inj H
  go_enter Try.func4, Try.ntmps4
  go_wp2_with (first | ((with_reducible refine gate_callee (f := 12) rfl ?_); refine goesL_ (some 15) rfl rfl Try.func12 (by kernel_rfl) rfl #[.slice A0 l0.length c0] rfl (by (try simp only [List.map_toArray, List.map_cons, List.map_nil]); first | done | rfl | (simp only [List.length_drop, List.length_take]; rfl)) ?_; (with_reducible refine (laws_big.calls _ _ l0 true _ ?side1 ?side2 A2.out).mono ?_); (case side1 => exact cU HR0.out); (case side2 => exact HC0.out); rintro e w' ⟨rfl, ⟨nd, rfl⟩⟩; refine ⟨_, rfl, ?_⟩))
  go_ret
  exact ⟨by first | rfl | (simp [errW_none, errW_some] <;> rfl) | (simp [*, errW_none, errW_some] <;> rfl), by repeat (first | (with_reducible first | exact HB.out | apply below_alloc | apply pw_below_drewN | apply below_drew1) | exact HB.out)⟩
 ·
  replace c3 := Bool.eq_false_iff.mpr c3
  subst c3
  have H1 : ((spec_DrawRotate.f k l0).bind fun bt575 => ((impl_Rotate.f k bt575.1 bt575.2.1 bt575.2.2.1 bt575.2.2.2).bind fun bt589 => ((spec_Rotate.f k bt575.1 bt575.2.1 bt575.2.2.1 bt575.2.2.2).bind fun bt597 => (if bt589.2.2 = bt597.2.2 then (if bt589.2.2 = 0 then (if (bt575.2.2.1.length : Int) = 0 then (laws_FnRotated.j0 k true bt575.1 bt575.2.1 bt575.2.2.1 bt575.2.2.2 bt589.1 bt589.2.1) else (if 0 < (bt575.2.2.1.length : Int) then (laws_FnRotated.j0 k ((rd bt575.2.2.1 0) == 0) bt575.1 bt575.2.1 bt575.2.2.1 bt575.2.2.2 bt589.1 bt589.2.1) else (none))) else (some ((bt589.2.1.length : Int) == 0))) else (some false))))) = some r := by rw [if_neg (show ¬ (false = true) by decide)] at H; exact H
  clear H
  have H := H1
  clear H1
  replace H := Option.bind_eq_some_iff.mp H
  obtain ⟨⟨t575, t578, t581, t584⟩, A40, H⟩ := H
  replace H : ((impl_Rotate.f k t575 t578 t581 t584).bind fun bt589 => ((spec_Rotate.f k t575 t578 t581 t584).bind fun bt597 => (if bt589.2.2 = bt597.2.2 then (if bt589.2.2 = 0 then (if (t581.length : Int) = 0 then (laws_FnRotated.j0 k true t575 t578 t581 t584 bt589.1 bt589.2.1) else (if 0 < (t581.length : Int) then (laws_FnRotated.j0 k ((rd t581 0) == 0) t575 t578 t581 t584 bt589.1 bt589.2.1) else (none))) else (some ((bt589.2.1.length : Int) == 0))) else (some false)))) = some r := H
  have A4 := Aside0.mk A40
  clear A40
  replace H := Option.bind_eq_some_iff.mp H
  obtain ⟨⟨t589, t592, t595⟩, A50, H⟩ := H
  replace H : ((spec_Rotate.f k t575 t578 t581 t584).bind fun bt597 => (if t595 = bt597.2.2 then (if t595 = 0 then (if (t581.length : Int) = 0 then (laws_FnRotated.j0 k true t575 t578 t581 t584 t589 t592) else (if 0 < (t581.length : Int) then (laws_FnRotated.j0 k ((rd t581 0) == 0) t575 t578 t581 t584 t589 t592) else (none))) else (some ((t592.length : Int) == 0))) else (some false))) = some r := H
  have A5 := Aside0.mk A50
  clear A50
  replace H := Option.bind_eq_some_iff.mp H
  obtain ⟨⟨t597, t600, t603⟩, A60, H⟩ := H
  replace H : (if t595 = t603 then (if t595 = 0 then (if (t581.length : Int) = 0 then (laws_FnRotated.j0 k true t575 t578 t581 t584 t589 t592) else (if 0 < (t581.length : Int) then (laws_FnRotated.j0 k ((rd t581 0) == 0) t575 t578 t581 t584 t589 t592) else (none))) else (some ((t592.length : Int) == 0))) else (some false)) = some r := H
  have A6 := Aside0.mk A60
  clear A60
  by_cases c7 : t595 = t603
  ·
   rw [if_pos c7] at H
   have c7b0 : (t595 == t603) = true := beq_iff_eq.mpr c7
   have c7b1 : (t595 != t603) = false := bne_eq_false_iff_eq.mpr c7
   clear c7
   by_cases c8 : t595 = 0
   ·
    rw [if_pos c8] at H
    have c8b0 : (t595 == 0) = true := beq_iff_eq.mpr c8
    have c8b1 : (t595 != 0) = false := bne_eq_false_iff_eq.mpr c8
    clear c8
    have HC9 := Aside0.mk H
    clear H
    go_enter Try.func4, Try.ntmps4
    go_upto_region 10 with (first | ((with_reducible refine gate_callee (f := 12) rfl ?_); refine goesL_ (some 15) rfl rfl Try.func12 (by kernel_rfl) rfl #[.slice A0 l0.length c0] rfl (by (try simp only [List.map_toArray, List.map_cons, List.map_nil]); first | done | rfl | (simp only [List.length_drop, List.length_take]; rfl)) ?_; (with_reducible refine (laws_big.calls _ _ l0 false _ ?side1 ?side2 A2.out).mono ?_); (case side1 => exact cU HR0.out); (case side2 => exact HC0.out); rintro e w' ⟨rfl, ⟨nd, rfl⟩⟩; refine ⟨_, rfl, ?_⟩) | ((with_reducible refine gate_callee (f := 13) rfl ?_); refine goesL_ (some 18) rfl rfl Try.func13 (by kernel_rfl) rfl #[.slice A0 l0.length c0] rfl (by (try simp only [List.map_toArray, List.map_cons, List.map_nil]); first | done | rfl | (simp only [List.length_drop, List.length_take]; rfl)) ?_; (with_reducible refine (spec_DrawRotate.calls k _ _ l0 t575 t578 t581 t584 _ ?side1 ?side2 A4.out).mono ?_); (case side1 => exact cU HR0.out); (case side2 => exact HC0.out); rintro e w10 ⟨v576, v579, v582, v585, rfl, ho0, ho1, ho2, ho3, hb⟩; refine ⟨_, rfl, ?_⟩; have HO577 := Aside0.mk (Kd.R_lower ho0 (below_size (bU HB.out))); have HO580 := Aside0.mk (Kd.R_lower ho1 (below_size (bU HB.out))); have HO583 := Aside0.mk (Kd.R_lower ho2 (below_size (bU HB.out))); have HO586 := Aside0.mk (Kd.R_lower ho3 (below_size (bU HB.out))); replace HB := Aside0.mk (below_step (bU HB.out) hb); (try clear hb); (try clear hb2); (try clear hk); (try clear hi); (try clear ho0); (try clear ho1); (try clear ho2); (try clear ho3)) | ((with_reducible refine gate_dst (N := 3) rfl ?_); refine box_event ?hg (N := 3) ?hd (cs := #[.slice none 0 0, .slice none 0 0]) (t := 26) ?hr ?_; (case hd => rfl); (case hg => rfl); (case hr => first | (go_simp; done) | (go_simp; rfl)); intro gb587 hg w11 hbox hb; replace HO577 := Aside0.mk (Kd.R_below (RU HO577.out) hb); replace HO580 := Aside0.mk (Kd.R_below (RU HO580.out) hb); replace HO583 := Aside0.mk (Kd.R_below (RU HO583.out) hb); replace HO586 := Aside0.mk (Kd.R_below (RU HO586.out) hb); have BK587 := Aside0.mk (hbox); have GW587 := Aside0.mk ((by rw [hg]; exact (below_size (bU HB.out)) : w.heap.size ≤ gb587)); have GE587 := Aside0.mk ((by rw [hg]; exact (below_size (bU HB.out)) : w.heap.size ≤ gb587)); replace HB := Aside0.mk (below_step (bU HB.out) hb); clear hb hbox hg) | ((with_reducible refine gate_dst (N := 4) rfl ?_); refine box_event ?hg (N := 4) ?hd (cs := #[.slice none 0 0, .slice none 0 0]) (t := 26) ?hr ?_; (case hd => rfl); (case hg => rfl); (case hr => first | (go_simp; done) | (go_simp; rfl)); intro gb588 hg w12 hbox hb; replace HO577 := Aside0.mk (Kd.R_below (RU HO577.out) hb); replace HO580 := Aside0.mk (Kd.R_below (RU HO580.out) hb); replace HO583 := Aside0.mk (Kd.R_below (RU HO583.out) hb); replace HO586 := Aside0.mk (Kd.R_below (RU HO586.out) hb); have BK588 := Aside0.mk (hbox); have GW588 := Aside0.mk ((by rw [hg]; exact (below_size (bS1 HB.out GE587.out)) : w.heap.size ≤ gb588)); have GE588 := Aside0.mk ((by rw [hg]; exact (below_size (bS1 HB.out GE587.out)) : w.heap.size ≤ gb588)); replace HB := Aside0.mk (below_step (bS1 HB.out GE587.out) hb); have NB587_588 := Aside0.mk ((by rw [hg]; exact Nat.ne_of_lt (blk_lt (g := gb587) (o := .cells #[.slice none 0 0, .slice none 0 0] 26 (0, 0)) (kU BK587.out)) : gb587 ≠ gb588)); have NB588_587 := Aside0.mk ((by rw [hg]; exact Nat.ne_of_gt (blk_lt (g := gb587) (o := .cells #[.slice none 0 0, .slice none 0 0] 26 (0, 0)) (kU BK587.out)) : gb588 ≠ gb587)); replace BK587 := Aside0.mk (blk_below (g := gb587) (o := .cells #[.slice none 0 0, .slice none 0 0] 26 (0, 0)) (kU BK587.out) hb); clear hb hbox hg; obtain ⟨Ao13, co13, eo13⟩ := Kd.R_slice HO577.out; subst eo13; have hnb14 := NB587_588.out; have hnc14 := NB588_587.out; have hcz15_0 : w12.cell? ⟨gb587, 0, none⟩ = some (.slice none 0 0) := (blk_cell BK587.out 0).trans rfl; have hcz15_1 : w12.cell? ⟨gb587, 1, none⟩ = some (.slice none 0 0) := (blk_cell BK587.out 1).trans rfl; have hfz15_0 := blk_frozen BK587.out 0; have hfz15_1 := blk_frozen BK587.out 1; obtain ⟨Ao16, co16, eo16⟩ := Kd.R_slice HO580.out; subst eo16; obtain ⟨Ao17, co17, eo17⟩ := Kd.R_slice HO583.out; subst eo17; have hcz18_0 : w12.cell? ⟨gb588, 0, none⟩ = some (.slice none 0 0) := (blk_cell BK588.out 0).trans rfl; have hcz18_1 : w12.cell? ⟨gb588, 1, none⟩ = some (.slice none 0 0) := (blk_cell BK588.out 1).trans rfl; have hfz18_0 := blk_frozen BK588.out 0; have hfz18_1 := blk_frozen BK588.out 1; obtain ⟨Ao19, co19, eo19⟩ := Kd.R_slice HO586.out; subst eo19) | ((with_reducible refine gate_callee (f := 14) rfl ?_); refine goesL_ (some 24) rfl rfl Try.func14 (by kernel_rfl) rfl #[.agg #[.slice Ao13 t575.length co13, .slice Ao16 t578.length co16], .agg #[.slice Ao17 t581.length co17, .slice Ao19 t584.length co19]] rfl (by (try simp only [List.map_toArray, List.map_cons, List.map_nil]); first | done | rfl | (simp only [List.length_drop, List.length_take]; rfl)) ?_; (with_reducible refine (impl_Rotate.calls k _ _ t575 _ _ t578 _ _ t581 _ _ t584 t589 t592 t595 _ ?side1 ?side2 ?side3 ?side4 ?side5 ?side6 ?side7 ?side8 A5.out).mono ?_); (case side1 => refine (Kd.R_reads' (e := 3) (base := w.heap.size) (ok := fun k_ => (some k_ ≠ (.slice Ao16 t578.length co16 : Value).ownBlock ∧ (some k_ ≠ (.slice Ao17 t581.length co17 : Value).ownBlock ∧ some k_ ≠ (.slice Ao19 t584.length co19 : Value).ownBlock))) (n := t575.length) (c := co13) ?_).2.2; exact (by (with_reducible repeat (first | apply Kd.R_alloc | apply Kd.R_drewN | apply Kd.R_drew)); exact (Kd.R_mono (Kd.R_mono (Kd.R_far (p := ⟨gb588, 1, none⟩) (Kd.R_far (p := ⟨gb588, 0, none⟩) (Kd.R_far (p := ⟨gb587, 1, none⟩) (Kd.R_far (p := ⟨gb587, 0, none⟩) (Kd.R_types (Kd.R_types HO577.out BK587.out (by decide)) BK588.out (by decide)) (fun _ hk => hk.1.2) (.slice Ao13 t575.length co13)) (fun _ hk => hk.1.2) (.slice Ao16 t578.length co16)) (fun _ hk => hk.2) (.slice Ao17 t581.length co17)) (fun _ hk => hk.2) (.slice Ao19 t584.length co19)) (fun _ h_ => h_.1)) (fun _ h_ => h_.1)))); (case side2 => exact (Kd.R_reads' HO577.out).2.1); (case side3 => refine (Kd.R_reads' (e := 3) (base := w.heap.size) (ok := fun k_ => (some k_ ≠ (.slice Ao13 t575.length co13 : Value).ownBlock ∧ (some k_ ≠ (.slice Ao17 t581.length co17 : Value).ownBlock ∧ some k_ ≠ (.slice Ao19 t584.length co19 : Value).ownBlock))) (n := t578.length) (c := co16) ?_).2.2; exact (by (with_reducible repeat (first | apply Kd.R_alloc | apply Kd.R_drewN | apply Kd.R_drew)); exact (Kd.R_mono (Kd.R_mono (Kd.R_far (p := ⟨gb588, 1, none⟩) (Kd.R_far (p := ⟨gb588, 0, none⟩) (Kd.R_far (p := ⟨gb587, 1, none⟩) (Kd.R_far (p := ⟨gb587, 0, none⟩) (Kd.R_types (Kd.R_types HO580.out BK587.out (by decide)) BK588.out (by decide)) (fun _ hk => hk.1.2) (.slice Ao13 t575.length co13)) (fun _ hk => hk.1.2) (.slice Ao16 t578.length co16)) (fun _ hk => hk.2) (.slice Ao17 t581.length co17)) (fun _ hk => hk.2) (.slice Ao19 t584.length co19)) (fun _ h_ => h_.1)) (fun _ h_ => h_.1)))); (case side4 => exact (Kd.R_reads' HO580.out).2.1); (case side5 => refine (Kd.R_reads' (e := 3) (base := w.heap.size) (ok := fun k_ => (some k_ ≠ (.slice Ao13 t575.length co13 : Value).ownBlock ∧ (some k_ ≠ (.slice Ao16 t578.length co16 : Value).ownBlock ∧ some k_ ≠ (.slice Ao19 t584.length co19 : Value).ownBlock))) (n := t581.length) (c := co17) ?_).2.2; exact (by (with_reducible repeat (first | apply Kd.R_alloc | apply Kd.R_drewN | apply Kd.R_drew)); exact (Kd.R_mono (Kd.R_mono (Kd.R_far (p := ⟨gb588, 1, none⟩) (Kd.R_far (p := ⟨gb588, 0, none⟩) (Kd.R_far (p := ⟨gb587, 1, none⟩) (Kd.R_far (p := ⟨gb587, 0, none⟩) (Kd.R_types (Kd.R_types HO583.out BK587.out (by decide)) BK588.out (by decide)) (fun _ hk => hk.1.2) (.slice Ao13 t575.length co13)) (fun _ hk => hk.1.2) (.slice Ao16 t578.length co16)) (fun _ hk => hk.2) (.slice Ao17 t581.length co17)) (fun _ hk => hk.2) (.slice Ao19 t584.length co19)) (fun _ h_ => h_.1)) (fun _ h_ => h_.1)))); (case side6 => exact (Kd.R_reads' HO583.out).2.1); (case side7 => refine (Kd.R_reads' (e := 3) (base := w.heap.size) (ok := fun k_ => (some k_ ≠ (.slice Ao13 t575.length co13 : Value).ownBlock ∧ (some k_ ≠ (.slice Ao16 t578.length co16 : Value).ownBlock ∧ some k_ ≠ (.slice Ao17 t581.length co17 : Value).ownBlock))) (n := t584.length) (c := co19) ?_).2.2; exact (by (with_reducible repeat (first | apply Kd.R_alloc | apply Kd.R_drewN | apply Kd.R_drew)); exact (Kd.R_mono (Kd.R_mono (Kd.R_far (p := ⟨gb588, 1, none⟩) (Kd.R_far (p := ⟨gb588, 0, none⟩) (Kd.R_far (p := ⟨gb587, 1, none⟩) (Kd.R_far (p := ⟨gb587, 0, none⟩) (Kd.R_types (Kd.R_types HO586.out BK587.out (by decide)) BK588.out (by decide)) (fun _ hk => hk.1.2) (.slice Ao13 t575.length co13)) (fun _ hk => hk.1.2) (.slice Ao16 t578.length co16)) (fun _ hk => hk.2) (.slice Ao17 t581.length co17)) (fun _ hk => hk.2) (.slice Ao19 t584.length co19)) (fun _ h_ => h_.1)) (fun _ h_ => h_.1)))); (case side8 => exact (Kd.R_reads' HO586.out).2.1); rintro e w20 ⟨v590, v593, rfl, ho0, ho1, hb⟩; refine ⟨_, rfl, ?_⟩; have HO591 := Aside0.mk (Kd.R_lower (Kd.R_new' (Kd.R_new' (Kd.R_new' (Kd.R_new' ho0 (Kd.R_lt (by (with_reducible repeat (first | apply Kd.R_alloc | apply Kd.R_drewN | apply Kd.R_drew)); exact (Kd.R_mono (Kd.R_mono (Kd.R_far (p := ⟨gb588, 1, none⟩) (Kd.R_far (p := ⟨gb588, 0, none⟩) (Kd.R_far (p := ⟨gb587, 1, none⟩) (Kd.R_far (p := ⟨gb587, 0, none⟩) (Kd.R_types (Kd.R_types HO577.out BK587.out (by decide)) BK588.out (by decide)) (fun _ hk => hk.1.2) (.slice Ao13 t575.length co13)) (fun _ hk => hk.1.2) (.slice Ao16 t578.length co16)) (fun _ hk => hk.2) (.slice Ao17 t581.length co17)) (fun _ hk => hk.2) (.slice Ao19 t584.length co19)) (fun _ h_ => h_.1)) (fun _ h_ => h_.1))))) (Kd.R_lt (by (with_reducible repeat (first | apply Kd.R_alloc | apply Kd.R_drewN | apply Kd.R_drew)); exact (Kd.R_mono (Kd.R_mono (Kd.R_far (p := ⟨gb588, 1, none⟩) (Kd.R_far (p := ⟨gb588, 0, none⟩) (Kd.R_far (p := ⟨gb587, 1, none⟩) (Kd.R_far (p := ⟨gb587, 0, none⟩) (Kd.R_types (Kd.R_types HO580.out BK587.out (by decide)) BK588.out (by decide)) (fun _ hk => hk.1.2) (.slice Ao13 t575.length co13)) (fun _ hk => hk.1.2) (.slice Ao16 t578.length co16)) (fun _ hk => hk.2) (.slice Ao17 t581.length co17)) (fun _ hk => hk.2) (.slice Ao19 t584.length co19)) (fun _ h_ => h_.1)) (fun _ h_ => h_.1))))) (Kd.R_lt (by (with_reducible repeat (first | apply Kd.R_alloc | apply Kd.R_drewN | apply Kd.R_drew)); exact (Kd.R_mono (Kd.R_mono (Kd.R_far (p := ⟨gb588, 1, none⟩) (Kd.R_far (p := ⟨gb588, 0, none⟩) (Kd.R_far (p := ⟨gb587, 1, none⟩) (Kd.R_far (p := ⟨gb587, 0, none⟩) (Kd.R_types (Kd.R_types HO583.out BK587.out (by decide)) BK588.out (by decide)) (fun _ hk => hk.1.2) (.slice Ao13 t575.length co13)) (fun _ hk => hk.1.2) (.slice Ao16 t578.length co16)) (fun _ hk => hk.2) (.slice Ao17 t581.length co17)) (fun _ hk => hk.2) (.slice Ao19 t584.length co19)) (fun _ h_ => h_.1)) (fun _ h_ => h_.1))))) (Kd.R_lt (by (with_reducible repeat (first | apply Kd.R_alloc | apply Kd.R_drewN | apply Kd.R_drew)); exact (Kd.R_mono (Kd.R_mono (Kd.R_far (p := ⟨gb588, 1, none⟩) (Kd.R_far (p := ⟨gb588, 0, none⟩) (Kd.R_far (p := ⟨gb587, 1, none⟩) (Kd.R_far (p := ⟨gb587, 0, none⟩) (Kd.R_types (Kd.R_types HO586.out BK587.out (by decide)) BK588.out (by decide)) (fun _ hk => hk.1.2) (.slice Ao13 t575.length co13)) (fun _ hk => hk.1.2) (.slice Ao16 t578.length co16)) (fun _ hk => hk.2) (.slice Ao17 t581.length co17)) (fun _ hk => hk.2) (.slice Ao19 t584.length co19)) (fun _ h_ => h_.1)) (fun _ h_ => h_.1))))) (below_size (bS2 HB.out GE587.out GE588.out))); have HO594 := Aside0.mk (Kd.R_lower (Kd.R_new' (Kd.R_new' (Kd.R_new' (Kd.R_new' ho1 (Kd.R_lt (by (with_reducible repeat (first | apply Kd.R_alloc | apply Kd.R_drewN | apply Kd.R_drew)); exact (Kd.R_mono (Kd.R_mono (Kd.R_far (p := ⟨gb588, 1, none⟩) (Kd.R_far (p := ⟨gb588, 0, none⟩) (Kd.R_far (p := ⟨gb587, 1, none⟩) (Kd.R_far (p := ⟨gb587, 0, none⟩) (Kd.R_types (Kd.R_types HO577.out BK587.out (by decide)) BK588.out (by decide)) (fun _ hk => hk.1.2) (.slice Ao13 t575.length co13)) (fun _ hk => hk.1.2) (.slice Ao16 t578.length co16)) (fun _ hk => hk.2) (.slice Ao17 t581.length co17)) (fun _ hk => hk.2) (.slice Ao19 t584.length co19)) (fun _ h_ => h_.1)) (fun _ h_ => h_.1))))) (Kd.R_lt (by (with_reducible repeat (first | apply Kd.R_alloc | apply Kd.R_drewN | apply Kd.R_drew)); exact (Kd.R_mono (Kd.R_mono (Kd.R_far (p := ⟨gb588, 1, none⟩) (Kd.R_far (p := ⟨gb588, 0, none⟩) (Kd.R_far (p := ⟨gb587, 1, none⟩) (Kd.R_far (p := ⟨gb587, 0, none⟩) (Kd.R_types (Kd.R_types HO580.out BK587.out (by decide)) BK588.out (by decide)) (fun _ hk => hk.1.2) (.slice Ao13 t575.length co13)) (fun _ hk => hk.1.2) (.slice Ao16 t578.length co16)) (fun _ hk => hk.2) (.slice Ao17 t581.length co17)) (fun _ hk => hk.2) (.slice Ao19 t584.length co19)) (fun _ h_ => h_.1)) (fun _ h_ => h_.1))))) (Kd.R_lt (by (with_reducible repeat (first | apply Kd.R_alloc | apply Kd.R_drewN | apply Kd.R_drew)); exact (Kd.R_mono (Kd.R_mono (Kd.R_far (p := ⟨gb588, 1, none⟩) (Kd.R_far (p := ⟨gb588, 0, none⟩) (Kd.R_far (p := ⟨gb587, 1, none⟩) (Kd.R_far (p := ⟨gb587, 0, none⟩) (Kd.R_types (Kd.R_types HO583.out BK587.out (by decide)) BK588.out (by decide)) (fun _ hk => hk.1.2) (.slice Ao13 t575.length co13)) (fun _ hk => hk.1.2) (.slice Ao16 t578.length co16)) (fun _ hk => hk.2) (.slice Ao17 t581.length co17)) (fun _ hk => hk.2) (.slice Ao19 t584.length co19)) (fun _ h_ => h_.1)) (fun _ h_ => h_.1))))) (Kd.R_lt (by (with_reducible repeat (first | apply Kd.R_alloc | apply Kd.R_drewN | apply Kd.R_drew)); exact (Kd.R_mono (Kd.R_mono (Kd.R_far (p := ⟨gb588, 1, none⟩) (Kd.R_far (p := ⟨gb588, 0, none⟩) (Kd.R_far (p := ⟨gb587, 1, none⟩) (Kd.R_far (p := ⟨gb587, 0, none⟩) (Kd.R_types (Kd.R_types HO586.out BK587.out (by decide)) BK588.out (by decide)) (fun _ hk => hk.1.2) (.slice Ao13 t575.length co13)) (fun _ hk => hk.1.2) (.slice Ao16 t578.length co16)) (fun _ hk => hk.2) (.slice Ao17 t581.length co17)) (fun _ hk => hk.2) (.slice Ao19 t584.length co19)) (fun _ h_ => h_.1)) (fun _ h_ => h_.1))))) (below_size (bS2 HB.out GE587.out GE588.out))); replace HO577 := Aside0.mk (Kd.R_mono (Kd.R_told (Kd.R_told (Kd.R_old (by (with_reducible repeat (first | apply Kd.R_alloc | apply Kd.R_drewN | apply Kd.R_drew)); exact (Kd.R_mono (Kd.R_mono (Kd.R_far (p := ⟨gb588, 1, none⟩) (Kd.R_far (p := ⟨gb588, 0, none⟩) (Kd.R_far (p := ⟨gb587, 1, none⟩) (Kd.R_far (p := ⟨gb587, 0, none⟩) (Kd.R_types (Kd.R_types HO577.out BK587.out (by decide)) BK588.out (by decide)) (fun _ hk => hk.1.2) (.slice Ao13 t575.length co13)) (fun _ hk => hk.1.2) (.slice Ao16 t578.length co16)) (fun _ hk => hk.2) (.slice Ao17 t581.length co17)) (fun _ hk => hk.2) (.slice Ao19 t584.length co19)) (fun _ h_ => h_.1)) (fun _ h_ => h_.1))) hb) (Kd.R_base ho0)) (Kd.R_base ho1)) (fun _ h_ => h_.1)); replace HO580 := Aside0.mk (Kd.R_mono (Kd.R_told (Kd.R_told (Kd.R_old (by (with_reducible repeat (first | apply Kd.R_alloc | apply Kd.R_drewN | apply Kd.R_drew)); exact (Kd.R_mono (Kd.R_mono (Kd.R_far (p := ⟨gb588, 1, none⟩) (Kd.R_far (p := ⟨gb588, 0, none⟩) (Kd.R_far (p := ⟨gb587, 1, none⟩) (Kd.R_far (p := ⟨gb587, 0, none⟩) (Kd.R_types (Kd.R_types HO580.out BK587.out (by decide)) BK588.out (by decide)) (fun _ hk => hk.1.2) (.slice Ao13 t575.length co13)) (fun _ hk => hk.1.2) (.slice Ao16 t578.length co16)) (fun _ hk => hk.2) (.slice Ao17 t581.length co17)) (fun _ hk => hk.2) (.slice Ao19 t584.length co19)) (fun _ h_ => h_.1)) (fun _ h_ => h_.1))) hb) (Kd.R_base ho0)) (Kd.R_base ho1)) (fun _ h_ => h_.1)); replace HO583 := Aside0.mk (Kd.R_mono (Kd.R_told (Kd.R_told (Kd.R_old (by (with_reducible repeat (first | apply Kd.R_alloc | apply Kd.R_drewN | apply Kd.R_drew)); exact (Kd.R_mono (Kd.R_mono (Kd.R_far (p := ⟨gb588, 1, none⟩) (Kd.R_far (p := ⟨gb588, 0, none⟩) (Kd.R_far (p := ⟨gb587, 1, none⟩) (Kd.R_far (p := ⟨gb587, 0, none⟩) (Kd.R_types (Kd.R_types HO583.out BK587.out (by decide)) BK588.out (by decide)) (fun _ hk => hk.1.2) (.slice Ao13 t575.length co13)) (fun _ hk => hk.1.2) (.slice Ao16 t578.length co16)) (fun _ hk => hk.2) (.slice Ao17 t581.length co17)) (fun _ hk => hk.2) (.slice Ao19 t584.length co19)) (fun _ h_ => h_.1)) (fun _ h_ => h_.1))) hb) (Kd.R_base ho0)) (Kd.R_base ho1)) (fun _ h_ => h_.1)); replace HO586 := Aside0.mk (Kd.R_mono (Kd.R_told (Kd.R_told (Kd.R_old (by (with_reducible repeat (first | apply Kd.R_alloc | apply Kd.R_drewN | apply Kd.R_drew)); exact (Kd.R_mono (Kd.R_mono (Kd.R_far (p := ⟨gb588, 1, none⟩) (Kd.R_far (p := ⟨gb588, 0, none⟩) (Kd.R_far (p := ⟨gb587, 1, none⟩) (Kd.R_far (p := ⟨gb587, 0, none⟩) (Kd.R_types (Kd.R_types HO586.out BK587.out (by decide)) BK588.out (by decide)) (fun _ hk => hk.1.2) (.slice Ao13 t575.length co13)) (fun _ hk => hk.1.2) (.slice Ao16 t578.length co16)) (fun _ hk => hk.2) (.slice Ao17 t581.length co17)) (fun _ hk => hk.2) (.slice Ao19 t584.length co19)) (fun _ h_ => h_.1)) (fun _ h_ => h_.1))) hb) (Kd.R_base ho0)) (Kd.R_base ho1)) (fun _ h_ => h_.1)); replace BK587 := Aside0.mk (blk_below (g := gb587) (o := .cells #[.slice Ao13 t575.length co13, .slice Ao16 t578.length co16] 26 (0, 0)) (by (with_reducible repeat (first | refine blk_drewN ?_ _ | refine blk_drew ?_ | refine blk_alloc ?_ _)); refine blk_far ?_ NB587_588.out _; (with_reducible repeat (first | refine blk_drewN ?_ _ | refine blk_drew ?_ | refine blk_alloc ?_ _)); refine blk_far ?_ NB587_588.out _; (with_reducible repeat (first | refine blk_drewN ?_ _ | refine blk_drew ?_ | refine blk_alloc ?_ _)); refine blk_put (cs := #[.slice Ao13 t575.length co13, .slice none 0 0]) ?_ 1 _ rfl; (with_reducible repeat (first | refine blk_drewN ?_ _ | refine blk_drew ?_ | refine blk_alloc ?_ _)); refine blk_put (cs := #[.slice none 0 0, .slice none 0 0]) ?_ 0 _ rfl; (with_reducible repeat (first | refine blk_drewN ?_ _ | refine blk_drew ?_ | refine blk_alloc ?_ _)); exact BK587.out) hb); replace BK588 := Aside0.mk (blk_below (g := gb588) (o := .cells #[.slice Ao17 t581.length co17, .slice Ao19 t584.length co19] 26 (0, 0)) (by (with_reducible repeat (first | refine blk_drewN ?_ _ | refine blk_drew ?_ | refine blk_alloc ?_ _)); refine blk_put (cs := #[.slice Ao17 t581.length co17, .slice none 0 0]) ?_ 1 _ rfl; (with_reducible repeat (first | refine blk_drewN ?_ _ | refine blk_drew ?_ | refine blk_alloc ?_ _)); refine blk_put (cs := #[.slice none 0 0, .slice none 0 0]) ?_ 0 _ rfl; (with_reducible repeat (first | refine blk_drewN ?_ _ | refine blk_drew ?_ | refine blk_alloc ?_ _)); refine blk_far ?_ NB588_587.out _; (with_reducible repeat (first | refine blk_drewN ?_ _ | refine blk_drew ?_ | refine blk_alloc ?_ _)); refine blk_far ?_ NB588_587.out _; (with_reducible repeat (first | refine blk_drewN ?_ _ | refine blk_drew ?_ | refine blk_alloc ?_ _)); exact BK588.out) hb); replace HB := Aside0.mk (below_step (bS2 HB.out GE587.out GE588.out) hb); (try clear hb); (try clear hb2); (try clear hk); (try clear hi); (try clear ho0); (try clear ho1)) | ((with_reducible refine gate_dst (N := 5) rfl ?_); refine box_event ?hg (N := 5) ?hd (cs := #[.slice none 0 0, .slice none 0 0]) (t := 26) ?hr ?_; (case hd => rfl); (case hg => rfl); (case hr => first | (go_simp; done) | (go_simp; rfl)); intro gb596 hg w21 hbox hb; replace HO577 := Aside0.mk (Kd.R_below (RU HO577.out) hb); replace HO580 := Aside0.mk (Kd.R_below (RU HO580.out) hb); replace HO583 := Aside0.mk (Kd.R_below (RU HO583.out) hb); replace HO586 := Aside0.mk (Kd.R_below (RU HO586.out) hb); replace HO591 := Aside0.mk (Kd.R_below (RU HO591.out) hb); replace HO594 := Aside0.mk (Kd.R_below (RU HO594.out) hb); have BK596 := Aside0.mk (hbox); have GW596 := Aside0.mk ((by rw [hg]; exact (below_size (bS2 HB.out GE587.out GE588.out)) : w.heap.size ≤ gb596)); have GE596 := Aside0.mk ((by rw [hg]; exact (below_size (bS2 HB.out GE587.out GE588.out)) : w.heap.size ≤ gb596)); replace HB := Aside0.mk (below_step (bS2 HB.out GE587.out GE588.out) hb); have NB587_596 := Aside0.mk ((by rw [hg]; exact Nat.ne_of_lt (blk_lt (g := gb587) (o := .cells #[.slice Ao13 t575.length co13, .slice Ao16 t578.length co16] 26 (0, 0)) (kU BK587.out)) : gb587 ≠ gb596)); have NB596_587 := Aside0.mk ((by rw [hg]; exact Nat.ne_of_gt (blk_lt (g := gb587) (o := .cells #[.slice Ao13 t575.length co13, .slice Ao16 t578.length co16] 26 (0, 0)) (kU BK587.out)) : gb596 ≠ gb587)); replace BK587 := Aside0.mk (blk_below (g := gb587) (o := .cells #[.slice Ao13 t575.length co13, .slice Ao16 t578.length co16] 26 (0, 0)) (kU BK587.out) hb); have NB588_596 := Aside0.mk ((by rw [hg]; exact Nat.ne_of_lt (blk_lt (g := gb588) (o := .cells #[.slice Ao17 t581.length co17, .slice Ao19 t584.length co19] 26 (0, 0)) (kU BK588.out)) : gb588 ≠ gb596)); have NB596_588 := Aside0.mk ((by rw [hg]; exact Nat.ne_of_gt (blk_lt (g := gb588) (o := .cells #[.slice Ao17 t581.length co17, .slice Ao19 t584.length co19] 26 (0, 0)) (kU BK588.out)) : gb596 ≠ gb588)); replace BK588 := Aside0.mk (blk_below (g := gb588) (o := .cells #[.slice Ao17 t581.length co17, .slice Ao19 t584.length co19] 26 (0, 0)) (kU BK588.out) hb); clear hb hbox hg; obtain ⟨Ao22, co22, eo22⟩ := Kd.R_slice HO591.out; subst eo22; have hnb23 := NB596_587.out; have hnc23 := NB587_596.out; have hnb24 := NB596_588.out; have hnc24 := NB588_596.out; have hcz25_0 : w21.cell? ⟨gb596, 0, none⟩ = some (.slice none 0 0) := (blk_cell BK596.out 0).trans rfl; have hcz25_1 : w21.cell? ⟨gb596, 1, none⟩ = some (.slice none 0 0) := (blk_cell BK596.out 1).trans rfl; have hfz25_0 := blk_frozen BK596.out 0; have hfz25_1 := blk_frozen BK596.out 1; obtain ⟨Ao26, co26, eo26⟩ := Kd.R_slice HO594.out; subst eo26; have hcz27_0 : w21.cell? ⟨gb587, 0, none⟩ = some (.slice Ao13 t575.length co13) := (blk_cell BK587.out 0).trans rfl; have hcz27_1 : w21.cell? ⟨gb587, 1, none⟩ = some (.slice Ao16 t578.length co16) := (blk_cell BK587.out 1).trans rfl; have hfz27_0 := blk_frozen BK587.out 0; have hfz27_1 := blk_frozen BK587.out 1; have hcz28_0 : w21.cell? ⟨gb588, 0, none⟩ = some (.slice Ao17 t581.length co17) := (blk_cell BK588.out 0).trans rfl; have hcz28_1 : w21.cell? ⟨gb588, 1, none⟩ = some (.slice Ao19 t584.length co19) := (blk_cell BK588.out 1).trans rfl; have hfz28_0 := blk_frozen BK588.out 0; have hfz28_1 := blk_frozen BK588.out 1) | ((with_reducible refine gate_callee (f := 15) rfl ?_); refine goesL_ (some 30) rfl rfl Try.func15 (by kernel_rfl) rfl #[.agg #[.slice Ao13 t575.length co13, .slice Ao16 t578.length co16], .agg #[.slice Ao17 t581.length co17, .slice Ao19 t584.length co19]] rfl (by (try simp only [List.map_toArray, List.map_cons, List.map_nil]); first | done | rfl | (simp only [List.length_drop, List.length_take]; rfl)) ?_; (with_reducible refine (spec_Rotate.calls k _ _ t575 _ _ t578 _ _ t581 _ _ t584 t597 t600 t603 _ ?side1 ?side2 ?side3 ?side4 ?side5 ?side6 ?side7 ?side8 A6.out).mono ?_); (case side1 => refine (Kd.R_reads' (e := 3) (base := w.heap.size) (ok := fun k_ => (((some k_ ≠ (.slice Ao16 t578.length co16 : Value).ownBlock ∧ (some k_ ≠ (.slice Ao17 t581.length co17 : Value).ownBlock ∧ some k_ ≠ (.slice Ao19 t584.length co19 : Value).ownBlock)) ∧ some k_ ≠ (.slice Ao22 t589.length co22 : Value).ownBlock) ∧ some k_ ≠ (.slice Ao26 t592.length co26 : Value).ownBlock)) (n := t575.length) (c := co13) ?_).2.2; exact (by (with_reducible repeat (first | apply Kd.R_alloc | apply Kd.R_drewN | apply Kd.R_drew)); exact (far2 HO577.out BK596.out))); (case side2 => exact (Kd.R_reads' HO577.out).2.1); (case side3 => refine (Kd.R_reads' (e := 3) (base := w.heap.size) (ok := fun k_ => (((some k_ ≠ (.slice Ao13 t575.length co13 : Value).ownBlock ∧ (some k_ ≠ (.slice Ao17 t581.length co17 : Value).ownBlock ∧ some k_ ≠ (.slice Ao19 t584.length co19 : Value).ownBlock)) ∧ some k_ ≠ (.slice Ao22 t589.length co22 : Value).ownBlock) ∧ some k_ ≠ (.slice Ao26 t592.length co26 : Value).ownBlock)) (n := t578.length) (c := co16) ?_).2.2; exact (by (with_reducible repeat (first | apply Kd.R_alloc | apply Kd.R_drewN | apply Kd.R_drew)); exact (far2 HO580.out BK596.out))); (case side4 => exact (Kd.R_reads' HO580.out).2.1); (case side5 => refine (Kd.R_reads' (e := 3) (base := w.heap.size) (ok := fun k_ => (((some k_ ≠ (.slice Ao13 t575.length co13 : Value).ownBlock ∧ (some k_ ≠ (.slice Ao16 t578.length co16 : Value).ownBlock ∧ some k_ ≠ (.slice Ao19 t584.length co19 : Value).ownBlock)) ∧ some k_ ≠ (.slice Ao22 t589.length co22 : Value).ownBlock) ∧ some k_ ≠ (.slice Ao26 t592.length co26 : Value).ownBlock)) (n := t581.length) (c := co17) ?_).2.2; exact (by (with_reducible repeat (first | apply Kd.R_alloc | apply Kd.R_drewN | apply Kd.R_drew)); exact (far2 HO583.out BK596.out))); (case side6 => exact (Kd.R_reads' HO583.out).2.1); (case side7 => refine (Kd.R_reads' (e := 3) (base := w.heap.size) (ok := fun k_ => (((some k_ ≠ (.slice Ao13 t575.length co13 : Value).ownBlock ∧ (some k_ ≠ (.slice Ao16 t578.length co16 : Value).ownBlock ∧ some k_ ≠ (.slice Ao17 t581.length co17 : Value).ownBlock)) ∧ some k_ ≠ (.slice Ao22 t589.length co22 : Value).ownBlock) ∧ some k_ ≠ (.slice Ao26 t592.length co26 : Value).ownBlock)) (n := t584.length) (c := co19) ?_).2.2; exact (by (with_reducible repeat (first | apply Kd.R_alloc | apply Kd.R_drewN | apply Kd.R_drew)); exact (far2 HO586.out BK596.out))); (case side8 => exact (Kd.R_reads' HO586.out).2.1); rintro e w29 ⟨v598, v601, rfl, ho0, ho1, hb⟩; refine ⟨_, rfl, ?_⟩; have HO599 := Aside0.mk (Kd.R_lower (Kd.R_new' (Kd.R_new' (Kd.R_new' (Kd.R_new' (Kd.R_new' (Kd.R_new' ho0 (Kd.R_lt (by (with_reducible repeat (first | apply Kd.R_alloc | apply Kd.R_drewN | apply Kd.R_drew)); exact (far2 HO577.out BK596.out)))) (Kd.R_lt (by (with_reducible repeat (first | apply Kd.R_alloc | apply Kd.R_drewN | apply Kd.R_drew)); exact (far2 HO580.out BK596.out)))) (Kd.R_lt (by (with_reducible repeat (first | apply Kd.R_alloc | apply Kd.R_drewN | apply Kd.R_drew)); exact (far2 HO583.out BK596.out)))) (Kd.R_lt (by (with_reducible repeat (first | apply Kd.R_alloc | apply Kd.R_drewN | apply Kd.R_drew)); exact (far2 HO586.out BK596.out)))) (Kd.R_lt (by (with_reducible repeat (first | apply Kd.R_alloc | apply Kd.R_drewN | apply Kd.R_drew)); exact (far2 HO591.out BK596.out)))) (Kd.R_lt (by (with_reducible repeat (first | apply Kd.R_alloc | apply Kd.R_drewN | apply Kd.R_drew)); exact (far2 HO594.out BK596.out)))) (below_size (bS3 HB.out GE587.out GE588.out GE596.out))); have HO602 := Aside0.mk (Kd.R_lower (Kd.R_new' (Kd.R_new' (Kd.R_new' (Kd.R_new' (Kd.R_new' (Kd.R_new' ho1 (Kd.R_lt (by (with_reducible repeat (first | apply Kd.R_alloc | apply Kd.R_drewN | apply Kd.R_drew)); exact (far2 HO577.out BK596.out)))) (Kd.R_lt (by (with_reducible repeat (first | apply Kd.R_alloc | apply Kd.R_drewN | apply Kd.R_drew)); exact (far2 HO580.out BK596.out)))) (Kd.R_lt (by (with_reducible repeat (first | apply Kd.R_alloc | apply Kd.R_drewN | apply Kd.R_drew)); exact (far2 HO583.out BK596.out)))) (Kd.R_lt (by (with_reducible repeat (first | apply Kd.R_alloc | apply Kd.R_drewN | apply Kd.R_drew)); exact (far2 HO586.out BK596.out)))) (Kd.R_lt (by (with_reducible repeat (first | apply Kd.R_alloc | apply Kd.R_drewN | apply Kd.R_drew)); exact (far2 HO591.out BK596.out)))) (Kd.R_lt (by (with_reducible repeat (first | apply Kd.R_alloc | apply Kd.R_drewN | apply Kd.R_drew)); exact (far2 HO594.out BK596.out)))) (below_size (bS3 HB.out GE587.out GE588.out GE596.out))); replace HO577 := Aside0.mk (Kd.R_mono (Kd.R_told (Kd.R_told (Kd.R_old (by (with_reducible repeat (first | apply Kd.R_alloc | apply Kd.R_drewN | apply Kd.R_drew)); exact (far2 HO577.out BK596.out)) hb) (Kd.R_base ho0)) (Kd.R_base ho1)) (fun _ h_ => h_.1)); replace HO580 := Aside0.mk (Kd.R_mono (Kd.R_told (Kd.R_told (Kd.R_old (by (with_reducible repeat (first | apply Kd.R_alloc | apply Kd.R_drewN | apply Kd.R_drew)); exact (far2 HO580.out BK596.out)) hb) (Kd.R_base ho0)) (Kd.R_base ho1)) (fun _ h_ => h_.1)); replace HO583 := Aside0.mk (Kd.R_mono (Kd.R_told (Kd.R_told (Kd.R_old (by (with_reducible repeat (first | apply Kd.R_alloc | apply Kd.R_drewN | apply Kd.R_drew)); exact (far2 HO583.out BK596.out)) hb) (Kd.R_base ho0)) (Kd.R_base ho1)) (fun _ h_ => h_.1)); replace HO586 := Aside0.mk (Kd.R_mono (Kd.R_told (Kd.R_told (Kd.R_old (by (with_reducible repeat (first | apply Kd.R_alloc | apply Kd.R_drewN | apply Kd.R_drew)); exact (far2 HO586.out BK596.out)) hb) (Kd.R_base ho0)) (Kd.R_base ho1)) (fun _ h_ => h_.1)); replace HO591 := Aside0.mk (Kd.R_mono (Kd.R_told (Kd.R_told (Kd.R_old (by (with_reducible repeat (first | apply Kd.R_alloc | apply Kd.R_drewN | apply Kd.R_drew)); exact (far2 HO591.out BK596.out)) hb) (Kd.R_base ho0)) (Kd.R_base ho1)) (fun _ h_ => h_.1)); replace HO594 := Aside0.mk (Kd.R_mono (Kd.R_told (Kd.R_told (Kd.R_old (by (with_reducible repeat (first | apply Kd.R_alloc | apply Kd.R_drewN | apply Kd.R_drew)); exact (far2 HO594.out BK596.out)) hb) (Kd.R_base ho0)) (Kd.R_base ho1)) (fun _ h_ => h_.1)); replace BK587 := Aside0.mk (blk_below (g := gb587) (o := .cells #[.slice Ao13 t575.length co13, .slice Ao16 t578.length co16] 26 (0, 0)) (by (with_reducible repeat (first | refine blk_drewN ?_ _ | refine blk_drew ?_ | refine blk_alloc ?_ _)); refine blk_far ?_ NB587_596.out _; (with_reducible repeat (first | refine blk_drewN ?_ _ | refine blk_drew ?_ | refine blk_alloc ?_ _)); refine blk_far ?_ NB587_596.out _; (with_reducible repeat (first | refine blk_drewN ?_ _ | refine blk_drew ?_ | refine blk_alloc ?_ _)); exact BK587.out) hb); replace BK588 := Aside0.mk (blk_below (g := gb588) (o := .cells #[.slice Ao17 t581.length co17, .slice Ao19 t584.length co19] 26 (0, 0)) (by (with_reducible repeat (first | refine blk_drewN ?_ _ | refine blk_drew ?_ | refine blk_alloc ?_ _)); refine blk_far ?_ NB588_596.out _; (with_reducible repeat (first | refine blk_drewN ?_ _ | refine blk_drew ?_ | refine blk_alloc ?_ _)); refine blk_far ?_ NB588_596.out _; (with_reducible repeat (first | refine blk_drewN ?_ _ | refine blk_drew ?_ | refine blk_alloc ?_ _)); exact BK588.out) hb); replace BK596 := Aside0.mk (blk_below (g := gb596) (o := .cells #[.slice Ao22 t589.length co22, .slice Ao26 t592.length co26] 26 (0, 0)) (by (with_reducible repeat (first | refine blk_drewN ?_ _ | refine blk_drew ?_ | refine blk_alloc ?_ _)); refine blk_put (cs := #[.slice Ao22 t589.length co22, .slice none 0 0]) ?_ 1 _ rfl; (with_reducible repeat (first | refine blk_drewN ?_ _ | refine blk_drew ?_ | refine blk_alloc ?_ _)); refine blk_put (cs := #[.slice none 0 0, .slice none 0 0]) ?_ 0 _ rfl; (with_reducible repeat (first | refine blk_drewN ?_ _ | refine blk_drew ?_ | refine blk_alloc ?_ _)); exact BK596.out) hb); replace HB := Aside0.mk (below_step (bS3 HB.out GE587.out GE588.out GE596.out) hb); (try clear hb); (try clear hb2); (try clear hk); (try clear hi); (try clear ho0); (try clear ho1)) | ((with_reducible refine gate_dst (N := 7) rfl ?_); refine box_event ?hg (N := 7) ?hd (cs := #[.slice none 0 0, .slice none 0 0]) (t := 26) ?hr ?_; (case hd => rfl); (case hg => rfl); (case hr => first | (go_simp; done) | (go_simp; rfl)); intro gb604 hg w30 hbox hb; replace HO577 := Aside0.mk (Kd.R_below (RU HO577.out) hb); replace HO580 := Aside0.mk (Kd.R_below (RU HO580.out) hb); replace HO583 := Aside0.mk (Kd.R_below (RU HO583.out) hb); replace HO586 := Aside0.mk (Kd.R_below (RU HO586.out) hb); replace HO591 := Aside0.mk (Kd.R_below (RU HO591.out) hb); replace HO594 := Aside0.mk (Kd.R_below (RU HO594.out) hb); replace HO599 := Aside0.mk (Kd.R_below (RU HO599.out) hb); replace HO602 := Aside0.mk (Kd.R_below (RU HO602.out) hb); have BK604 := Aside0.mk (hbox); have GW604 := Aside0.mk ((by rw [hg]; exact (below_size (bS3 HB.out GE587.out GE588.out GE596.out)) : w.heap.size ≤ gb604)); have GE604 := Aside0.mk ((by rw [hg]; exact (below_size (bS3 HB.out GE587.out GE588.out GE596.out)) : w.heap.size ≤ gb604)); replace HB := Aside0.mk (below_step (bS3 HB.out GE587.out GE588.out GE596.out) hb); have NB587_604 := Aside0.mk ((by rw [hg]; exact Nat.ne_of_lt (blk_lt (g := gb587) (o := .cells #[.slice Ao13 t575.length co13, .slice Ao16 t578.length co16] 26 (0, 0)) (kU BK587.out)) : gb587 ≠ gb604)); have NB604_587 := Aside0.mk ((by rw [hg]; exact Nat.ne_of_gt (blk_lt (g := gb587) (o := .cells #[.slice Ao13 t575.length co13, .slice Ao16 t578.length co16] 26 (0, 0)) (kU BK587.out)) : gb604 ≠ gb587)); replace BK587 := Aside0.mk (blk_below (g := gb587) (o := .cells #[.slice Ao13 t575.length co13, .slice Ao16 t578.length co16] 26 (0, 0)) (kU BK587.out) hb); have NB588_604 := Aside0.mk ((by rw [hg]; exact Nat.ne_of_lt (blk_lt (g := gb588) (o := .cells #[.slice Ao17 t581.length co17, .slice Ao19 t584.length co19] 26 (0, 0)) (kU BK588.out)) : gb588 ≠ gb604)); have NB604_588 := Aside0.mk ((by rw [hg]; exact Nat.ne_of_gt (blk_lt (g := gb588) (o := .cells #[.slice Ao17 t581.length co17, .slice Ao19 t584.length co19] 26 (0, 0)) (kU BK588.out)) : gb604 ≠ gb588)); replace BK588 := Aside0.mk (blk_below (g := gb588) (o := .cells #[.slice Ao17 t581.length co17, .slice Ao19 t584.length co19] 26 (0, 0)) (kU BK588.out) hb); have NB596_604 := Aside0.mk ((by rw [hg]; exact Nat.ne_of_lt (blk_lt (g := gb596) (o := .cells #[.slice Ao22 t589.length co22, .slice Ao26 t592.length co26] 26 (0, 0)) (kU BK596.out)) : gb596 ≠ gb604)); have NB604_596 := Aside0.mk ((by rw [hg]; exact Nat.ne_of_gt (blk_lt (g := gb596) (o := .cells #[.slice Ao22 t589.length co22, .slice Ao26 t592.length co26] 26 (0, 0)) (kU BK596.out)) : gb604 ≠ gb596)); replace BK596 := Aside0.mk (blk_below (g := gb596) (o := .cells #[.slice Ao22 t589.length co22, .slice Ao26 t592.length co26] 26 (0, 0)) (kU BK596.out) hb); clear hb hbox hg; obtain ⟨Ao31, co31, eo31⟩ := Kd.R_slice HO599.out; subst eo31; have hnb32 := NB604_587.out; have hnc32 := NB587_604.out; have hnb33 := NB604_588.out; have hnc33 := NB588_604.out; have hnb34 := NB604_596.out; have hnc34 := NB596_604.out; have hcz35_0 : w30.cell? ⟨gb604, 0, none⟩ = some (.slice none 0 0) := (blk_cell BK604.out 0).trans rfl; have hcz35_1 : w30.cell? ⟨gb604, 1, none⟩ = some (.slice none 0 0) := (blk_cell BK604.out 1).trans rfl; have hfz35_0 := blk_frozen BK604.out 0; have hfz35_1 := blk_frozen BK604.out 1; obtain ⟨Ao36, co36, eo36⟩ := Kd.R_slice HO602.out; subst eo36))
    (try simp only [Act.put, List.setIfInBounds_toArray, List.set_cons_zero, List.set_cons_succ])
    go_cut [52] (fun v52 wc => ∃ (kq : Nat) (x52_8 : Bool), v52 = .bool x52_8 ∧ Aside0 (laws_FnRotated.j0 kq x52_8 t575 t578 t581 t584 t589 t592 = some r) ∧ Aside0 (kq ≤ k) ∧ Aside0 (Kd.R (Kd.int .i64) 3 wc w.heap.size (fun k_ => some k_ ≠ ((.slice Ao16 t578.length co16) : Value).ownBlock ∧ some k_ ≠ ((.slice Ao17 t581.length co17) : Value).ownBlock ∧ some k_ ≠ ((.slice Ao19 t584.length co19) : Value).ownBlock ∧ some k_ ≠ ((.slice Ao22 t589.length co22) : Value).ownBlock ∧ some k_ ≠ ((.slice Ao26 t592.length co26) : Value).ownBlock ∧ some k_ ≠ ((.slice Ao31 t597.length co31) : Value).ownBlock ∧ some k_ ≠ ((.slice Ao36 t600.length co36) : Value).ownBlock) (.slice Ao13 t575.length co13) t575) ∧ Aside0 (Kd.R (Kd.int .i64) 3 wc w.heap.size (fun k_ => some k_ ≠ ((.slice Ao13 t575.length co13) : Value).ownBlock ∧ some k_ ≠ ((.slice Ao17 t581.length co17) : Value).ownBlock ∧ some k_ ≠ ((.slice Ao19 t584.length co19) : Value).ownBlock ∧ some k_ ≠ ((.slice Ao22 t589.length co22) : Value).ownBlock ∧ some k_ ≠ ((.slice Ao26 t592.length co26) : Value).ownBlock ∧ some k_ ≠ ((.slice Ao31 t597.length co31) : Value).ownBlock ∧ some k_ ≠ ((.slice Ao36 t600.length co36) : Value).ownBlock) (.slice Ao16 t578.length co16) t578) ∧ Aside0 (Kd.R (Kd.int .i64) 3 wc w.heap.size (fun k_ => some k_ ≠ ((.slice Ao13 t575.length co13) : Value).ownBlock ∧ some k_ ≠ ((.slice Ao16 t578.length co16) : Value).ownBlock ∧ some k_ ≠ ((.slice Ao19 t584.length co19) : Value).ownBlock ∧ some k_ ≠ ((.slice Ao22 t589.length co22) : Value).ownBlock ∧ some k_ ≠ ((.slice Ao26 t592.length co26) : Value).ownBlock ∧ some k_ ≠ ((.slice Ao31 t597.length co31) : Value).ownBlock ∧ some k_ ≠ ((.slice Ao36 t600.length co36) : Value).ownBlock) (.slice Ao17 t581.length co17) t581) ∧ Aside0 (Kd.R (Kd.int .i64) 3 wc w.heap.size (fun k_ => some k_ ≠ ((.slice Ao13 t575.length co13) : Value).ownBlock ∧ some k_ ≠ ((.slice Ao16 t578.length co16) : Value).ownBlock ∧ some k_ ≠ ((.slice Ao17 t581.length co17) : Value).ownBlock ∧ some k_ ≠ ((.slice Ao22 t589.length co22) : Value).ownBlock ∧ some k_ ≠ ((.slice Ao26 t592.length co26) : Value).ownBlock ∧ some k_ ≠ ((.slice Ao31 t597.length co31) : Value).ownBlock ∧ some k_ ≠ ((.slice Ao36 t600.length co36) : Value).ownBlock) (.slice Ao19 t584.length co19) t584) ∧ Aside0 (Kd.R (Kd.int .i64) 3 wc w.heap.size (fun k_ => some k_ ≠ ((.slice Ao13 t575.length co13) : Value).ownBlock ∧ some k_ ≠ ((.slice Ao16 t578.length co16) : Value).ownBlock ∧ some k_ ≠ ((.slice Ao17 t581.length co17) : Value).ownBlock ∧ some k_ ≠ ((.slice Ao19 t584.length co19) : Value).ownBlock ∧ some k_ ≠ ((.slice Ao26 t592.length co26) : Value).ownBlock ∧ some k_ ≠ ((.slice Ao31 t597.length co31) : Value).ownBlock ∧ some k_ ≠ ((.slice Ao36 t600.length co36) : Value).ownBlock) (.slice Ao22 t589.length co22) t589) ∧ Aside0 (Kd.R (Kd.int .i64) 3 wc w.heap.size (fun k_ => some k_ ≠ ((.slice Ao13 t575.length co13) : Value).ownBlock ∧ some k_ ≠ ((.slice Ao16 t578.length co16) : Value).ownBlock ∧ some k_ ≠ ((.slice Ao17 t581.length co17) : Value).ownBlock ∧ some k_ ≠ ((.slice Ao19 t584.length co19) : Value).ownBlock ∧ some k_ ≠ ((.slice Ao22 t589.length co22) : Value).ownBlock ∧ some k_ ≠ ((.slice Ao31 t597.length co31) : Value).ownBlock ∧ some k_ ≠ ((.slice Ao36 t600.length co36) : Value).ownBlock) (.slice Ao26 t592.length co26) t592) ∧ Aside0 (Kd.R (Kd.int .i64) 3 wc w.heap.size (fun k_ => some k_ ≠ ((.slice Ao13 t575.length co13) : Value).ownBlock ∧ some k_ ≠ ((.slice Ao16 t578.length co16) : Value).ownBlock ∧ some k_ ≠ ((.slice Ao17 t581.length co17) : Value).ownBlock ∧ some k_ ≠ ((.slice Ao19 t584.length co19) : Value).ownBlock ∧ some k_ ≠ ((.slice Ao22 t589.length co22) : Value).ownBlock ∧ some k_ ≠ ((.slice Ao26 t592.length co26) : Value).ownBlock ∧ some k_ ≠ ((.slice Ao36 t600.length co36) : Value).ownBlock) (.slice Ao31 t597.length co31) t597) ∧ Aside0 (Kd.R (Kd.int .i64) 3 wc w.heap.size (fun k_ => some k_ ≠ ((.slice Ao13 t575.length co13) : Value).ownBlock ∧ some k_ ≠ ((.slice Ao16 t578.length co16) : Value).ownBlock ∧ some k_ ≠ ((.slice Ao17 t581.length co17) : Value).ownBlock ∧ some k_ ≠ ((.slice Ao19 t584.length co19) : Value).ownBlock ∧ some k_ ≠ ((.slice Ao22 t589.length co22) : Value).ownBlock ∧ some k_ ≠ ((.slice Ao26 t592.length co26) : Value).ownBlock ∧ some k_ ≠ ((.slice Ao31 t597.length co31) : Value).ownBlock) (.slice Ao36 t600.length co36) t600) ∧ Aside0 (wc.heap[gb587]? = some (.cells #[(.slice Ao13 t575.length co13), (.slice Ao16 t578.length co16)] 26 (0, 0))) ∧ Aside0 (wc.heap[gb588]? = some (.cells #[(.slice Ao17 t581.length co17), (.slice Ao19 t584.length co19)] 26 (0, 0))) ∧ Aside0 (wc.heap[gb596]? = some (.cells #[(.slice Ao22 t589.length co22), (.slice Ao26 t592.length co26)] 26 (0, 0))) ∧ Aside0 (wc.heap[gb604]? = some (.cells #[(.slice Ao31 t597.length co31), (.slice Ao36 t600.length co36)] 26 (0, 0))) ∧ Aside0 (Below w.heap.size w wc))
    case first =>
     have H := HC9.out
     clear HC9
     by_cases c37 : (t581.length : Int) = 0
     ·
      rw [if_pos c37] at H
      have c37b0 : ((t581.length : Int) == 0) = true := beq_iff_eq.mpr c37
      have c37b1 : ((t581.length : Int) != 0) = false := bne_eq_false_iff_eq.mpr c37
      clear c37
      (first | rw [c37b0] | (simp only [i64_w, i32_w]; rw [c37b0]) | skip)
      have H' := Aside0.mk H
      clear H
      have hnb38 := NB588_587.out
      have hnc38 := NB587_588.out
      have hnb39 := NB588_596.out
      have hnc39 := NB596_588.out
      have hnb40 := NB588_604.out
      have hnc40 := NB604_588.out
      have hcz41_0 : w30.cell? ⟨gb588, 0, none⟩ = some (.slice Ao17 t581.length co17) := (blk_cell BK588.out 0).trans rfl
      have hcz41_1 : w30.cell? ⟨gb588, 1, none⟩ = some (.slice Ao19 t584.length co19) := (blk_cell BK588.out 1).trans rfl
      have hfz41_0 := blk_frozen BK588.out 0
      have hfz41_1 := blk_frozen BK588.out 1
      go_wp2
      go_meet
      case rel => exact ⟨_, (true), (by first | rfl | (simp; done) | (simp [*]; done)), H', ⟨by first | omega | exact Nat.le_refl _⟩, ⟨by (with_reducible repeat (first | apply Kd.R_alloc | apply Kd.R_drewN | apply Kd.R_drew)); exact Kd.R_mono (Kd.R_far (p := ⟨gb604, 1, none⟩) (Kd.R_far (p := ⟨gb604, 0, none⟩) (Kd.R_types HO577.out BK604.out (by decide)) (fun _ hk => hk.2) (.slice Ao31 t597.length co31)) (fun _ hk => hk.2) (.slice Ao36 t600.length co36)) (fun _ hk => ⟨hk.1.1.1.1.1.1, ⟨hk.1.1.1.1.1.2.1, ⟨hk.1.1.1.1.1.2.2, ⟨hk.1.1.1.1.2, ⟨hk.1.1.1.2, ⟨hk.1.1.2, hk.1.2⟩⟩⟩⟩⟩⟩)⟩, ⟨by (with_reducible repeat (first | apply Kd.R_alloc | apply Kd.R_drewN | apply Kd.R_drew)); exact Kd.R_mono (Kd.R_far (p := ⟨gb604, 1, none⟩) (Kd.R_far (p := ⟨gb604, 0, none⟩) (Kd.R_types HO580.out BK604.out (by decide)) (fun _ hk => hk.2) (.slice Ao31 t597.length co31)) (fun _ hk => hk.2) (.slice Ao36 t600.length co36)) (fun _ hk => ⟨hk.1.1.1.1.1.1, ⟨hk.1.1.1.1.1.2.1, ⟨hk.1.1.1.1.1.2.2, ⟨hk.1.1.1.1.2, ⟨hk.1.1.1.2, ⟨hk.1.1.2, hk.1.2⟩⟩⟩⟩⟩⟩)⟩, ⟨by (with_reducible repeat (first | apply Kd.R_alloc | apply Kd.R_drewN | apply Kd.R_drew)); exact Kd.R_mono (Kd.R_far (p := ⟨gb604, 1, none⟩) (Kd.R_far (p := ⟨gb604, 0, none⟩) (Kd.R_types HO583.out BK604.out (by decide)) (fun _ hk => hk.2) (.slice Ao31 t597.length co31)) (fun _ hk => hk.2) (.slice Ao36 t600.length co36)) (fun _ hk => ⟨hk.1.1.1.1.1.1, ⟨hk.1.1.1.1.1.2.1, ⟨hk.1.1.1.1.1.2.2, ⟨hk.1.1.1.1.2, ⟨hk.1.1.1.2, ⟨hk.1.1.2, hk.1.2⟩⟩⟩⟩⟩⟩)⟩, ⟨by (with_reducible repeat (first | apply Kd.R_alloc | apply Kd.R_drewN | apply Kd.R_drew)); exact Kd.R_mono (Kd.R_far (p := ⟨gb604, 1, none⟩) (Kd.R_far (p := ⟨gb604, 0, none⟩) (Kd.R_types HO586.out BK604.out (by decide)) (fun _ hk => hk.2) (.slice Ao31 t597.length co31)) (fun _ hk => hk.2) (.slice Ao36 t600.length co36)) (fun _ hk => ⟨hk.1.1.1.1.1.1, ⟨hk.1.1.1.1.1.2.1, ⟨hk.1.1.1.1.1.2.2, ⟨hk.1.1.1.1.2, ⟨hk.1.1.1.2, ⟨hk.1.1.2, hk.1.2⟩⟩⟩⟩⟩⟩)⟩, ⟨by (with_reducible repeat (first | apply Kd.R_alloc | apply Kd.R_drewN | apply Kd.R_drew)); exact Kd.R_mono (Kd.R_far (p := ⟨gb604, 1, none⟩) (Kd.R_far (p := ⟨gb604, 0, none⟩) (Kd.R_types HO591.out BK604.out (by decide)) (fun _ hk => hk.2) (.slice Ao31 t597.length co31)) (fun _ hk => hk.2) (.slice Ao36 t600.length co36)) (fun _ hk => ⟨hk.1.1.1.1.1.1.2, ⟨hk.1.1.1.1.1.2, ⟨hk.1.1.1.1.2, ⟨hk.1.1.1.2, ⟨hk.1.1.1.1.1.1.1, ⟨hk.1.1.2, hk.1.2⟩⟩⟩⟩⟩⟩)⟩, ⟨by (with_reducible repeat (first | apply Kd.R_alloc | apply Kd.R_drewN | apply Kd.R_drew)); exact Kd.R_mono (Kd.R_far (p := ⟨gb604, 1, none⟩) (Kd.R_far (p := ⟨gb604, 0, none⟩) (Kd.R_types HO594.out BK604.out (by decide)) (fun _ hk => hk.2) (.slice Ao31 t597.length co31)) (fun _ hk => hk.2) (.slice Ao36 t600.length co36)) (fun _ hk => ⟨hk.1.1.1.1.1.1.2, ⟨hk.1.1.1.1.1.2, ⟨hk.1.1.1.1.2, ⟨hk.1.1.1.2, ⟨hk.1.1.1.1.1.1.1, ⟨hk.1.1.2, hk.1.2⟩⟩⟩⟩⟩⟩)⟩, ⟨by (with_reducible repeat (first | apply Kd.R_alloc | apply Kd.R_drewN | apply Kd.R_drew)); exact Kd.R_mono (Kd.R_far (p := ⟨gb604, 1, none⟩) (Kd.R_far (p := ⟨gb604, 0, none⟩) (Kd.R_types HO599.out BK604.out (by decide)) (fun _ hk => hk.2) (.slice Ao31 t597.length co31)) (fun _ hk => hk.2) (.slice Ao36 t600.length co36)) (fun _ hk => ⟨hk.1.1.1.1.1.1.2, ⟨hk.1.1.1.1.1.2, ⟨hk.1.1.1.1.2, ⟨hk.1.1.1.2, ⟨hk.1.1.2, ⟨hk.1.2, hk.1.1.1.1.1.1.1⟩⟩⟩⟩⟩⟩)⟩, ⟨by (with_reducible repeat (first | apply Kd.R_alloc | apply Kd.R_drewN | apply Kd.R_drew)); exact Kd.R_mono (Kd.R_far (p := ⟨gb604, 1, none⟩) (Kd.R_far (p := ⟨gb604, 0, none⟩) (Kd.R_types HO602.out BK604.out (by decide)) (fun _ hk => hk.2) (.slice Ao31 t597.length co31)) (fun _ hk => hk.2) (.slice Ao36 t600.length co36)) (fun _ hk => ⟨hk.1.1.1.1.1.1.2, ⟨hk.1.1.1.1.1.2, ⟨hk.1.1.1.1.2, ⟨hk.1.1.1.2, ⟨hk.1.1.2, ⟨hk.1.2, hk.1.1.1.1.1.1.1⟩⟩⟩⟩⟩⟩)⟩, ⟨by (with_reducible repeat (first | refine blk_drewN ?_ _ | refine blk_drew ?_ | refine blk_alloc ?_ _)); refine blk_far ?_ NB587_604.out _; (with_reducible repeat (first | refine blk_drewN ?_ _ | refine blk_drew ?_ | refine blk_alloc ?_ _)); refine blk_far ?_ NB587_604.out _; (with_reducible repeat (first | refine blk_drewN ?_ _ | refine blk_drew ?_ | refine blk_alloc ?_ _)); exact BK587.out⟩, ⟨by (with_reducible repeat (first | refine blk_drewN ?_ _ | refine blk_drew ?_ | refine blk_alloc ?_ _)); refine blk_far ?_ NB588_604.out _; (with_reducible repeat (first | refine blk_drewN ?_ _ | refine blk_drew ?_ | refine blk_alloc ?_ _)); refine blk_far ?_ NB588_604.out _; (with_reducible repeat (first | refine blk_drewN ?_ _ | refine blk_drew ?_ | refine blk_alloc ?_ _)); exact BK588.out⟩, ⟨by (with_reducible repeat (first | refine blk_drewN ?_ _ | refine blk_drew ?_ | refine blk_alloc ?_ _)); refine blk_far ?_ NB596_604.out _; (with_reducible repeat (first | refine blk_drewN ?_ _ | refine blk_drew ?_ | refine blk_alloc ?_ _)); refine blk_far ?_ NB596_604.out _; (with_reducible repeat (first | refine blk_drewN ?_ _ | refine blk_drew ?_ | refine blk_alloc ?_ _)); exact BK596.out⟩, ⟨by (with_reducible repeat (first | refine blk_drewN ?_ _ | refine blk_drew ?_ | refine blk_alloc ?_ _)); refine blk_put (cs := #[.slice Ao31 t597.length co31, .slice none 0 0]) ?_ 1 _ rfl; (with_reducible repeat (first | refine blk_drewN ?_ _ | refine blk_drew ?_ | refine blk_alloc ?_ _)); refine blk_put (cs := #[.slice none 0 0, .slice none 0 0]) ?_ 0 _ rfl; (with_reducible repeat (first | refine blk_drewN ?_ _ | refine blk_drew ?_ | refine blk_alloc ?_ _)); exact BK604.out⟩, ⟨by repeat (first | (with_reducible first | exact HB.out | apply below_alloc | apply pw_below_drewN | apply below_drew1 | refine below_set ?_ GE587.out | refine below_set ?_ GE588.out | refine below_set ?_ GE596.out | refine below_set ?_ GE604.out) | exact HB.out)⟩⟩
     ·
      rw [if_neg c37] at H
      have c37b0 : ((t581.length : Int) == 0) = false := beq_eq_false_iff_ne.mpr c37
      have c37b1 : ((t581.length : Int) != 0) = true := bne_iff_ne.mpr c37
      have c37b2 : ¬ (t581 = []) := fun h_ => c37 (by rw [h_]; rfl)
      (first | rw [c37b0] | (simp only [i64_w, i32_w]; rw [c37b0]) | skip)
      by_cases c42 : 0 < (t581.length : Int)
      ·
       rw [if_pos c42] at H
       have c42b0 : decide (0 < (t581.length : Int)) = true := decide_eq_true c42
       have c42b1 : decide (0 < t581.length) = true := decide_eq_true (by omega)
       clear c42
       have H' := Aside0.mk H
       clear H
       have hnb43 := NB588_587.out
       have hnc43 := NB587_588.out
       have hnb44 := NB588_596.out
       have hnc44 := NB596_588.out
       have hnb45 := NB588_604.out
       have hnc45 := NB604_588.out
       have hcz46_0 : w30.cell? ⟨gb588, 0, none⟩ = some (.slice Ao17 t581.length co17) := (blk_cell BK588.out 0).trans rfl
       have hcz46_1 : w30.cell? ⟨gb588, 1, none⟩ = some (.slice Ao19 t584.length co19) := (blk_cell BK588.out 1).trans rfl
       have hfz46_0 := blk_frozen BK588.out 0
       have hfz46_1 := blk_frozen BK588.out 1
       have p605 : 0 ≤ (0 : Int) := (by omega)
       have q605 : 0 < (t581.length : Int) := of_decide_eq_true (by first | (with_reducible assumption) | assumption)
       obtain ⟨ad605, e605, hx605_0⟩ := Kd.at_int (Kd.R_reads' HO583.out).2.2 0 p605 q605
       cases e605
       have qi605 : (0 < t581.length) = True := eq_true (by omega)
       (try rw [show ((0 : Int)).toNat = 0 from rfl] at hx605_0)
       (try rw [Addr.add_zero'] at hx605_0)
       have hn605_0 : ad605.block ≠ gb604 := Kd.own_blk (Kd.R_ne HO583.out BK604.out (by decide))
       have hn605_1 : ad605.block ≠ gb604 := Kd.own_blk (Kd.R_ne HO583.out BK604.out (by decide))
       replace hx605_0 := (cell_far (p := ⟨gb604, 0, none⟩) (by first | (rw [add_block]; exact hn605_0) | (show (Addr.add _ _).block ≠ _; rw [add_block]; exact hn605_0) | exact hn605_0) (.slice Ao31 t597.length co31)).trans hx605_0
       replace hx605_0 := (cell_far (p := ⟨gb604, 1, none⟩) (by first | (rw [add_block]; exact hn605_1) | (show (Addr.add _ _).block ≠ _; rw [add_block]; exact hn605_1) | exact hn605_1) (.slice Ao36 t600.length co36)).trans hx605_0
       clear hn605_0 hn605_1
       replace p605 := eq_true p605
       replace q605 := eq_true q605
       go_wp2
       go_meet
       case rel => exact ⟨_, (((rd t581 0) == 0)), (by first | rfl | (simp; done) | (simp [*]; done)), H', ⟨by first | omega | exact Nat.le_refl _⟩, ⟨by (with_reducible repeat (first | apply Kd.R_alloc | apply Kd.R_drewN | apply Kd.R_drew)); exact Kd.R_mono (Kd.R_far (p := ⟨gb604, 1, none⟩) (Kd.R_far (p := ⟨gb604, 0, none⟩) (Kd.R_types HO577.out BK604.out (by decide)) (fun _ hk => hk.2) (.slice Ao31 t597.length co31)) (fun _ hk => hk.2) (.slice Ao36 t600.length co36)) (fun _ hk => ⟨hk.1.1.1.1.1.1, ⟨hk.1.1.1.1.1.2.1, ⟨hk.1.1.1.1.1.2.2, ⟨hk.1.1.1.1.2, ⟨hk.1.1.1.2, ⟨hk.1.1.2, hk.1.2⟩⟩⟩⟩⟩⟩)⟩, ⟨by (with_reducible repeat (first | apply Kd.R_alloc | apply Kd.R_drewN | apply Kd.R_drew)); exact Kd.R_mono (Kd.R_far (p := ⟨gb604, 1, none⟩) (Kd.R_far (p := ⟨gb604, 0, none⟩) (Kd.R_types HO580.out BK604.out (by decide)) (fun _ hk => hk.2) (.slice Ao31 t597.length co31)) (fun _ hk => hk.2) (.slice Ao36 t600.length co36)) (fun _ hk => ⟨hk.1.1.1.1.1.1, ⟨hk.1.1.1.1.1.2.1, ⟨hk.1.1.1.1.1.2.2, ⟨hk.1.1.1.1.2, ⟨hk.1.1.1.2, ⟨hk.1.1.2, hk.1.2⟩⟩⟩⟩⟩⟩)⟩, ⟨by (with_reducible repeat (first | apply Kd.R_alloc | apply Kd.R_drewN | apply Kd.R_drew)); exact Kd.R_mono (Kd.R_far (p := ⟨gb604, 1, none⟩) (Kd.R_far (p := ⟨gb604, 0, none⟩) (Kd.R_types HO583.out BK604.out (by decide)) (fun _ hk => hk.2) (.slice Ao31 t597.length co31)) (fun _ hk => hk.2) (.slice Ao36 t600.length co36)) (fun _ hk => ⟨hk.1.1.1.1.1.1, ⟨hk.1.1.1.1.1.2.1, ⟨hk.1.1.1.1.1.2.2, ⟨hk.1.1.1.1.2, ⟨hk.1.1.1.2, ⟨hk.1.1.2, hk.1.2⟩⟩⟩⟩⟩⟩)⟩, ⟨by (with_reducible repeat (first | apply Kd.R_alloc | apply Kd.R_drewN | apply Kd.R_drew)); exact Kd.R_mono (Kd.R_far (p := ⟨gb604, 1, none⟩) (Kd.R_far (p := ⟨gb604, 0, none⟩) (Kd.R_types HO586.out BK604.out (by decide)) (fun _ hk => hk.2) (.slice Ao31 t597.length co31)) (fun _ hk => hk.2) (.slice Ao36 t600.length co36)) (fun _ hk => ⟨hk.1.1.1.1.1.1, ⟨hk.1.1.1.1.1.2.1, ⟨hk.1.1.1.1.1.2.2, ⟨hk.1.1.1.1.2, ⟨hk.1.1.1.2, ⟨hk.1.1.2, hk.1.2⟩⟩⟩⟩⟩⟩)⟩, ⟨by (with_reducible repeat (first | apply Kd.R_alloc | apply Kd.R_drewN | apply Kd.R_drew)); exact Kd.R_mono (Kd.R_far (p := ⟨gb604, 1, none⟩) (Kd.R_far (p := ⟨gb604, 0, none⟩) (Kd.R_types HO591.out BK604.out (by decide)) (fun _ hk => hk.2) (.slice Ao31 t597.length co31)) (fun _ hk => hk.2) (.slice Ao36 t600.length co36)) (fun _ hk => ⟨hk.1.1.1.1.1.1.2, ⟨hk.1.1.1.1.1.2, ⟨hk.1.1.1.1.2, ⟨hk.1.1.1.2, ⟨hk.1.1.1.1.1.1.1, ⟨hk.1.1.2, hk.1.2⟩⟩⟩⟩⟩⟩)⟩, ⟨by (with_reducible repeat (first | apply Kd.R_alloc | apply Kd.R_drewN | apply Kd.R_drew)); exact Kd.R_mono (Kd.R_far (p := ⟨gb604, 1, none⟩) (Kd.R_far (p := ⟨gb604, 0, none⟩) (Kd.R_types HO594.out BK604.out (by decide)) (fun _ hk => hk.2) (.slice Ao31 t597.length co31)) (fun _ hk => hk.2) (.slice Ao36 t600.length co36)) (fun _ hk => ⟨hk.1.1.1.1.1.1.2, ⟨hk.1.1.1.1.1.2, ⟨hk.1.1.1.1.2, ⟨hk.1.1.1.2, ⟨hk.1.1.1.1.1.1.1, ⟨hk.1.1.2, hk.1.2⟩⟩⟩⟩⟩⟩)⟩, ⟨by (with_reducible repeat (first | apply Kd.R_alloc | apply Kd.R_drewN | apply Kd.R_drew)); exact Kd.R_mono (Kd.R_far (p := ⟨gb604, 1, none⟩) (Kd.R_far (p := ⟨gb604, 0, none⟩) (Kd.R_types HO599.out BK604.out (by decide)) (fun _ hk => hk.2) (.slice Ao31 t597.length co31)) (fun _ hk => hk.2) (.slice Ao36 t600.length co36)) (fun _ hk => ⟨hk.1.1.1.1.1.1.2, ⟨hk.1.1.1.1.1.2, ⟨hk.1.1.1.1.2, ⟨hk.1.1.1.2, ⟨hk.1.1.2, ⟨hk.1.2, hk.1.1.1.1.1.1.1⟩⟩⟩⟩⟩⟩)⟩, ⟨by (with_reducible repeat (first | apply Kd.R_alloc | apply Kd.R_drewN | apply Kd.R_drew)); exact Kd.R_mono (Kd.R_far (p := ⟨gb604, 1, none⟩) (Kd.R_far (p := ⟨gb604, 0, none⟩) (Kd.R_types HO602.out BK604.out (by decide)) (fun _ hk => hk.2) (.slice Ao31 t597.length co31)) (fun _ hk => hk.2) (.slice Ao36 t600.length co36)) (fun _ hk => ⟨hk.1.1.1.1.1.1.2, ⟨hk.1.1.1.1.1.2, ⟨hk.1.1.1.1.2, ⟨hk.1.1.1.2, ⟨hk.1.1.2, ⟨hk.1.2, hk.1.1.1.1.1.1.1⟩⟩⟩⟩⟩⟩)⟩, ⟨by (with_reducible repeat (first | refine blk_drewN ?_ _ | refine blk_drew ?_ | refine blk_alloc ?_ _)); refine blk_far ?_ NB587_604.out _; (with_reducible repeat (first | refine blk_drewN ?_ _ | refine blk_drew ?_ | refine blk_alloc ?_ _)); refine blk_far ?_ NB587_604.out _; (with_reducible repeat (first | refine blk_drewN ?_ _ | refine blk_drew ?_ | refine blk_alloc ?_ _)); exact BK587.out⟩, ⟨by (with_reducible repeat (first | refine blk_drewN ?_ _ | refine blk_drew ?_ | refine blk_alloc ?_ _)); refine blk_far ?_ NB588_604.out _; (with_reducible repeat (first | refine blk_drewN ?_ _ | refine blk_drew ?_ | refine blk_alloc ?_ _)); refine blk_far ?_ NB588_604.out _; (with_reducible repeat (first | refine blk_drewN ?_ _ | refine blk_drew ?_ | refine blk_alloc ?_ _)); exact BK588.out⟩, ⟨by (with_reducible repeat (first | refine blk_drewN ?_ _ | refine blk_drew ?_ | refine blk_alloc ?_ _)); refine blk_far ?_ NB596_604.out _; (with_reducible repeat (first | refine blk_drewN ?_ _ | refine blk_drew ?_ | refine blk_alloc ?_ _)); refine blk_far ?_ NB596_604.out _; (with_reducible repeat (first | refine blk_drewN ?_ _ | refine blk_drew ?_ | refine blk_alloc ?_ _)); exact BK596.out⟩, ⟨by (with_reducible repeat (first | refine blk_drewN ?_ _ | refine blk_drew ?_ | refine blk_alloc ?_ _)); refine blk_put (cs := #[.slice Ao31 t597.length co31, .slice none 0 0]) ?_ 1 _ rfl; (with_reducible repeat (first | refine blk_drewN ?_ _ | refine blk_drew ?_ | refine blk_alloc ?_ _)); refine blk_put (cs := #[.slice none 0 0, .slice none 0 0]) ?_ 0 _ rfl; (with_reducible repeat (first | refine blk_drewN ?_ _ | refine blk_drew ?_ | refine blk_alloc ?_ _)); exact BK604.out⟩, ⟨by repeat (first | (with_reducible first | exact HB.out | apply below_alloc | apply pw_below_drewN | apply below_drew1 | refine below_set ?_ GE587.out | refine below_set ?_ GE588.out | refine below_set ?_ GE596.out | refine below_set ?_ GE604.out) | exact HB.out)⟩⟩
      ·
       rw [if_neg c42] at H
       exact absurd H (by simp)
    case rest =>
     clear HC9
     try clear c1
     try clear c2
     try clear p2
     try clear c3
     try clear c4
     try clear p6
     try clear q6
     try clear hx6
     try clear qi6
     try clear c7
     try clear c7b0
     try clear c7b1
     try clear c8
     try clear c8b0
     try clear c8b1
     try clear c12
     try clear c13
     try clear c14
     try clear c15
     try clear c23
     try clear c24
     try clear c32
     try clear c33
     try clear c34
     try clear c37
     try clear c37b0
     try clear c37b1
     try clear c37b2
     try clear c38
     try clear c39
     try clear c40
     try clear c42
     try clear c42b0
     try clear c42b1
     try clear c43
     try clear c44
     try clear c45
     try clear hcz15_0
     try clear hcz15_1
     try clear hcz18_0
     try clear hcz18_1
     try clear hcz25_0
     try clear hcz25_1
     try clear hcz27_0
     try clear hcz27_1
     try clear hcz28_0
     try clear hcz28_1
     try clear hcz35_0
     try clear hcz35_1
     try clear hcz41_0
     try clear hcz41_1
     try clear hcz46_0
     try clear hcz46_1
     try clear hfz15_0
     try clear hfz15_1
     try clear hfz18_0
     try clear hfz18_1
     try clear hfz25_0
     try clear hfz25_1
     try clear hfz27_0
     try clear hfz27_1
     try clear hfz28_0
     try clear hfz28_1
     try clear hfz35_0
     try clear hfz35_1
     try clear hfz41_0
     try clear hfz41_1
     try clear hfz46_0
     try clear hfz46_1
     try clear hx605_0
     try clear p605
     try clear q605
     obtain ⟨kq, x52_8, rfl, HA, HJ8, HO_588000, HO_588001, HO_589000, HO_589001, HO_597000, HO_597001, HO_605000, HO_605001, BK587, BK588, BK596, BK604, HB⟩ := hcut
     cases kq with
     | zero => exact absurd HA.out (by simp [laws_FnRotated.j0])
     | succ kj8 =>
      have H := HA.out
      clear HA
      simp only [laws_FnRotated.j0] at H
      by_cases c47 : x52_8 = true
      ·
       subst c47
       have H1 : ((laws_sameArray.f kj8 t581 t584 t589 t592).bind fun t606 => (some t606)) = some r := by rw [if_pos rfl] at H; exact H
       clear H
       have H := H1
       clear H1
       replace H := Option.bind_eq_some_iff.mp H
       obtain ⟨t606, A480, H⟩ := H
       replace H : (some t606) = some r := H
       have A48 := Aside0.mk A480
       clear A480
       obtain rfl := Option.some.inj H
       have hnb49 := NB588_587.out
       have hnc49 := NB587_588.out
       have hnb50 := NB588_596.out
       have hnc50 := NB596_588.out
       have hnb51 := NB588_604.out
       have hnc51 := NB604_588.out
       have hcz52_0 : wc.cell? ⟨gb588, 0, none⟩ = some (.slice Ao17 t581.length co17) := (blk_cell BK588.out 0).trans rfl
       have hcz52_1 : wc.cell? ⟨gb588, 1, none⟩ = some (.slice Ao19 t584.length co19) := (blk_cell BK588.out 1).trans rfl
       have hfz52_0 := blk_frozen BK588.out 0
       have hfz52_1 := blk_frozen BK588.out 1
       have hnb53 := NB596_587.out
       have hnc53 := NB587_596.out
       have hnb54 := NB596_604.out
       have hnc54 := NB604_596.out
       have hcz55_0 : wc.cell? ⟨gb596, 0, none⟩ = some (.slice Ao22 t589.length co22) := (blk_cell BK596.out 0).trans rfl
       have hcz55_1 : wc.cell? ⟨gb596, 1, none⟩ = some (.slice Ao26 t592.length co26) := (blk_cell BK596.out 1).trans rfl
       have hfz55_0 := blk_frozen BK596.out 0
       have hfz55_1 := blk_frozen BK596.out 1
       go_wp2_with (first | ((with_reducible refine gate_callee (f := 16) rfl ?_); refine goesL_ (some 55) rfl rfl Try.func16 (by kernel_rfl) rfl #[.agg #[.slice Ao17 t581.length co17, .slice Ao19 t584.length co19], .agg #[.slice Ao22 t589.length co22, .slice Ao26 t592.length co26]] rfl (by (try simp only [List.map_toArray, List.map_cons, List.map_nil]); first | done | rfl | (simp only [List.length_drop, List.length_take]; rfl)) ?_; (with_reducible refine (laws_sameArray.calls kj8 _ _ t581 _ _ t584 _ _ t589 _ _ t592 t606 _ ?side1 ?side2 ?side3 ?side4 ?side5 ?side6 ?side7 ?side8 A48.out).mono ?_); (case side1 => exact cU (Kd.R_reads' HO_589000.out).2.2); (case side2 => exact (Kd.R_reads' HO_589000.out).2.1); (case side3 => exact cU (Kd.R_reads' HO_589001.out).2.2); (case side4 => exact (Kd.R_reads' HO_589001.out).2.1); (case side5 => exact cU (Kd.R_reads' HO_597000.out).2.2); (case side6 => exact (Kd.R_reads' HO_597000.out).2.1); (case side7 => exact cU (Kd.R_reads' HO_597001.out).2.2); (case side8 => exact (Kd.R_reads' HO_597001.out).2.1); rintro e w56 ⟨rfl, hb⟩; refine ⟨_, rfl, ?_⟩; replace HO_588000 := Aside0.mk (Kd.R_below (RU HO_588000.out) hb); replace HO_588001 := Aside0.mk (Kd.R_below (RU HO_588001.out) hb); replace HO_589000 := Aside0.mk (Kd.R_below (RU HO_589000.out) hb); replace HO_589001 := Aside0.mk (Kd.R_below (RU HO_589001.out) hb); replace HO_597000 := Aside0.mk (Kd.R_below (RU HO_597000.out) hb); replace HO_597001 := Aside0.mk (Kd.R_below (RU HO_597001.out) hb); replace HO_605000 := Aside0.mk (Kd.R_below (RU HO_605000.out) hb); replace HO_605001 := Aside0.mk (Kd.R_below (RU HO_605001.out) hb); replace BK587 := Aside0.mk (blk_below (g := gb587) (o := .cells #[.slice Ao13 t575.length co13, .slice Ao16 t578.length co16] 26 (0, 0)) (kU BK587.out) hb); replace BK588 := Aside0.mk (blk_below (g := gb588) (o := .cells #[.slice Ao17 t581.length co17, .slice Ao19 t584.length co19] 26 (0, 0)) (kU BK588.out) hb); replace BK596 := Aside0.mk (blk_below (g := gb596) (o := .cells #[.slice Ao22 t589.length co22, .slice Ao26 t592.length co26] 26 (0, 0)) (kU BK596.out) hb); replace BK604 := Aside0.mk (blk_below (g := gb604) (o := .cells #[.slice Ao31 t597.length co31, .slice Ao36 t600.length co36] 26 (0, 0)) (kU BK604.out) hb); replace HB := Aside0.mk (below_step (bS4 HB.out GE587.out GE588.out GE596.out GE604.out) hb); (try clear hb); (try clear hb2); (try clear hk); (try clear hi)))
       go_ret
       exact ⟨by first | rfl | (simp [errW_none, errW_some] <;> rfl) | (simp [*, errW_none, errW_some] <;> rfl), by repeat (first | (with_reducible first | exact HB.out | apply below_alloc | apply pw_below_drewN | apply below_drew1 | refine below_set ?_ GE587.out | refine below_set ?_ GE588.out | refine below_set ?_ GE596.out | refine below_set ?_ GE604.out) | exact HB.out)⟩
      ·
       replace c47 := Bool.eq_false_iff.mpr c47
       subst c47
       have H1 : ((impl_Rows.f kj8 t581 t584).bind fun t607 => ((impl_Rows.f kj8 t589 t592).bind fun t610 => (if 0 < (t578.length : Int) then (if (t607.length : Int) = 0 then (none) else (laws_FnRotated.l0 kj8 t607 t610 (t607.length : Int) (Int.tmod (wrap64 ((Int.tmod (rd t578 0) (t607.length : Int)) + (t607.length : Int))) (t607.length : Int)) 0 t581 t584 t589 t592)) else (none)))) = some r := by rw [if_neg (show ¬ (false = true) by decide)] at H; exact H
       clear H
       have H := H1
       clear H1
       replace H := Option.bind_eq_some_iff.mp H
       obtain ⟨t607, A570, H⟩ := H
       replace H : ((impl_Rows.f kj8 t589 t592).bind fun t610 => (if 0 < (t578.length : Int) then (if (t607.length : Int) = 0 then (none) else (laws_FnRotated.l0 kj8 t607 t610 (t607.length : Int) (Int.tmod (wrap64 ((Int.tmod (rd t578 0) (t607.length : Int)) + (t607.length : Int))) (t607.length : Int)) 0 t581 t584 t589 t592)) else (none))) = some r := H
       have A57 := Aside0.mk A570
       clear A570
       replace H := Option.bind_eq_some_iff.mp H
       obtain ⟨t610, A580, H⟩ := H
       replace H : (if 0 < (t578.length : Int) then (if (t607.length : Int) = 0 then (none) else (laws_FnRotated.l0 kj8 t607 t610 (t607.length : Int) (Int.tmod (wrap64 ((Int.tmod (rd t578 0) (t607.length : Int)) + (t607.length : Int))) (t607.length : Int)) 0 t581 t584 t589 t592)) else (none)) = some r := H
       have A58 := Aside0.mk A580
       clear A580
       by_cases c59 : 0 < (t578.length : Int)
       ·
        rw [if_pos c59] at H
        have c59b0 : decide (0 < (t578.length : Int)) = true := decide_eq_true c59
        have c59b1 : decide (0 < t578.length) = true := decide_eq_true (by omega)
        clear c59
        by_cases c60 : (t607.length : Int) = 0
        ·
         rw [if_pos c60] at H
         exact absurd H (by simp)
        ·
         rw [if_neg c60] at H
         have c60b0 : ((t607.length : Int) == 0) = false := beq_eq_false_iff_ne.mpr c60
         have c60b1 : ((t607.length : Int) != 0) = true := bne_iff_ne.mpr c60
         have c60b2 : ¬ (t607 = []) := fun h_ => c60 (by rw [h_]; rfl)
         have H' := Aside0.mk H
         clear H
         try go_wp2
         replace HO_588000 := Aside0.mk (Kd.R_drew HO_588000.out)
         replace HO_588001 := Aside0.mk (Kd.R_drew HO_588001.out)
         replace HO_589000 := Aside0.mk (Kd.R_drew HO_589000.out)
         replace HO_589001 := Aside0.mk (Kd.R_drew HO_589001.out)
         replace HO_597000 := Aside0.mk (Kd.R_drew HO_597000.out)
         replace HO_597001 := Aside0.mk (Kd.R_drew HO_597001.out)
         replace HO_605000 := Aside0.mk (Kd.R_drew HO_605000.out)
         replace HO_605001 := Aside0.mk (Kd.R_drew HO_605001.out)
         replace BK587 := Aside0.mk (blk_drew BK587.out)
         replace BK588 := Aside0.mk (blk_drew BK588.out)
         replace BK596 := Aside0.mk (blk_drew BK596.out)
         replace BK604 := Aside0.mk (blk_drew BK604.out)
         replace HB := Aside0.mk (below_drew1 HB.out)
         refine start_ (n := 6) (S := fun w' => w'.cell? ⟨gb588, 0, none⟩ = some (.slice Ao17 t581.length co17) ∧ w'.cell? ⟨gb588, 1, none⟩ = some (.slice Ao19 t584.length co19) ∧ w'.cell? ⟨gb596, 0, none⟩ = some (.slice Ao22 t589.length co22) ∧ w'.cell? ⟨gb596, 1, none⟩ = some (.slice Ao26 t592.length co26)) (ds := []) #[false, false, false, false, false, false] (by kernel_rfl) rfl rfl ⟨(blk_cell BK588.out 0).trans rfl, (blk_cell BK588.out 1).trans rfl, (blk_cell BK596.out 0).trans rfl, (blk_cell BK596.out 1).trans rfl⟩ (fun hHeld => ?_)
         generalize wc.drew = w61 at HO_588000 HO_588001 HO_589000 HO_589001 HO_597000 HO_597001 HO_605000 HO_605001 BK587 BK588 BK596 BK604 HB hHeld ⊢
         refine take_ (i := 0) (N := some 56) (v := ?_) (a' := ?_) #[true, false, false, false, false, false] rfl rfl (by kernel_rfl) (fun _ _ _ h => h) (Or.inl ⟨by rfl, ?_⟩) hHeld ?_ ?_
         rotate_left
         ·
          rintro w' ⟨s0, s1, s2, s3⟩
          go_simp
          with_reducible rfl
         rotate_left
         ·
          simp only [Act.put, List.setIfInBounds_toArray, List.set_cons_zero, List.set_cons_succ, i64_w, i32_w]
          rfl
         refine take_ (i := 2) (N := some 58) (v := ?_) (a' := ?_) #[true, false, true, false, false, false] rfl rfl (by kernel_rfl) (fun _ _ _ h => h) (Or.inl ⟨by rfl, ?_⟩) hHeld ?_ ?_
         rotate_left
         ·
          rintro w' ⟨s0, s1, s2, s3⟩
          go_simp
          with_reducible rfl
         rotate_left
         ·
          simp only [Act.put, List.setIfInBounds_toArray, List.set_cons_zero, List.set_cons_succ, i64_w, i32_w]
          rfl
         refine one_ (i := 1) (N := some 57) #[true, true, true, false, false, false] rfl rfl (by kernel_rfl) (by decide) (fun K hK => ?_)
         refine goes_ Try.func17 (by kernel_rfl) rfl #[.agg #[.slice Ao17 t581.length co17, .slice Ao19 t584.length co19]] (by rfl) rfl rfl (by (try simp only [List.map_toArray, List.map_cons, List.map_nil]); first | done | rfl | (simp only [List.length_drop, List.length_take]; rfl)) ?_
         with_reducible refine (impl_Rows.calls kj8 _ _ t581 _ _ t584 t607 _ ?side1 ?side2 ?side3 ?side4 A57.out).mono ?_
         (case side1 => exact cU (Kd.R_reads' HO_589000.out).2.2)
         (case side2 => exact (Kd.R_reads' HO_589000.out).2.1)
         (case side3 => exact cU (Kd.R_reads' HO_589001.out).2.2)
         (case side4 => exact (Kd.R_reads' HO_589001.out).2.1)
         rintro e w62 ⟨v608, rfl, ho0, hb⟩
         refine ⟨_, rfl, ?_⟩
         have HO609 := Aside0.mk (Kd.S_lower (Kd.S_newB (Kd.S_newB (Kd.S_newB (Kd.S_newB (Kd.S_new' (Kd.S_new' (Kd.S_new' (Kd.S_new' (Kd.S_new' (Kd.S_new' (Kd.S_new' (Kd.S_new' ho0 (Kd.R_lt (RU HO_588000.out))) (Kd.R_lt (RU HO_588001.out))) (Kd.R_lt (RU HO_589000.out))) (Kd.R_lt (RU HO_589001.out))) (Kd.R_lt (RU HO_597000.out))) (Kd.R_lt (RU HO_597001.out))) (Kd.R_lt (RU HO_605000.out))) (Kd.R_lt (RU HO_605001.out))) (g := gb587) (o := .cells #[.slice Ao13 t575.length co13, .slice Ao16 t578.length co16] 26 (0, 0)) (kU BK587.out)) (g := gb588) (o := .cells #[.slice Ao17 t581.length co17, .slice Ao19 t584.length co19] 26 (0, 0)) (kU BK588.out)) (g := gb596) (o := .cells #[.slice Ao22 t589.length co22, .slice Ao26 t592.length co26] 26 (0, 0)) (kU BK596.out)) (g := gb604) (o := .cells #[.slice Ao31 t597.length co31, .slice Ao36 t600.length co36] 26 (0, 0)) (kU BK604.out)) (below_size (bS4 HB.out GE587.out GE588.out GE596.out GE604.out)))
         replace HO_588000 := Aside0.mk (Kd.R_below (RU HO_588000.out) hb)
         replace HO_588001 := Aside0.mk (Kd.R_below (RU HO_588001.out) hb)
         replace HO_589000 := Aside0.mk (Kd.R_below (RU HO_589000.out) hb)
         replace HO_589001 := Aside0.mk (Kd.R_below (RU HO_589001.out) hb)
         replace HO_597000 := Aside0.mk (Kd.R_below (RU HO_597000.out) hb)
         replace HO_597001 := Aside0.mk (Kd.R_below (RU HO_597001.out) hb)
         replace HO_605000 := Aside0.mk (Kd.R_below (RU HO_605000.out) hb)
         replace HO_605001 := Aside0.mk (Kd.R_below (RU HO_605001.out) hb)
         replace BK587 := Aside0.mk (blk_below (g := gb587) (o := .cells #[.slice Ao13 t575.length co13, .slice Ao16 t578.length co16] 26 (0, 0)) (kU BK587.out) hb)
         replace BK588 := Aside0.mk (blk_below (g := gb588) (o := .cells #[.slice Ao17 t581.length co17, .slice Ao19 t584.length co19] 26 (0, 0)) (kU BK588.out) hb)
         replace BK596 := Aside0.mk (blk_below (g := gb596) (o := .cells #[.slice Ao22 t589.length co22, .slice Ao26 t592.length co26] 26 (0, 0)) (kU BK596.out) hb)
         replace BK604 := Aside0.mk (blk_below (g := gb604) (o := .cells #[.slice Ao31 t597.length co31, .slice Ao36 t600.length co36] 26 (0, 0)) (kU BK604.out) hb)
         replace HB := Aside0.mk (below_step (bS4 HB.out GE587.out GE588.out GE596.out GE604.out) hb)
         (try clear hb)
         (try clear hb2)
         (try clear hk)
         (try clear hi)
         (try clear ho0)
         refine hK.out _ _ ⟨(blk_cell BK588.out 0).trans rfl, (blk_cell BK588.out 1).trans rfl, (blk_cell BK596.out 0).trans rfl, (blk_cell BK596.out 1).trans rfl⟩ (fun hHeld => ?_)
         clear hK K
         refine norm_ (a' := ?_) ?_ ?_
         rotate_left
         ·
          show Act.put _ (some 57) _ = _
          simp only [Act.put, List.setIfInBounds_toArray, List.set_cons_zero, List.set_cons_succ, i64_w, i32_w]
          rfl
         refine one_ (i := 3) (N := some 59) #[true, true, true, true, false, false] rfl rfl (by kernel_rfl) (by decide) (fun K hK => ?_)
         refine goes_ Try.func17 (by kernel_rfl) rfl #[.agg #[.slice Ao22 t589.length co22, .slice Ao26 t592.length co26]] (by rfl) rfl rfl (by (try simp only [List.map_toArray, List.map_cons, List.map_nil]); first | done | rfl | (simp only [List.length_drop, List.length_take]; rfl)) ?_
         with_reducible refine (impl_Rows.calls kj8 _ _ t589 _ _ t592 t610 _ ?side1 ?side2 ?side3 ?side4 A58.out).mono ?_
         (case side1 => exact cU (Kd.R_reads' HO_597000.out).2.2)
         (case side2 => exact (Kd.R_reads' HO_597000.out).2.1)
         (case side3 => exact cU (Kd.R_reads' HO_597001.out).2.2)
         (case side4 => exact (Kd.R_reads' HO_597001.out).2.1)
         rintro e w63 ⟨v611, rfl, ho0, hb⟩
         refine ⟨_, rfl, ?_⟩
         have HO612 := Aside0.mk (Kd.S_lower (Kd.S_newB (Kd.S_newB (Kd.S_newB (Kd.S_newB (Kd.S_new' (Kd.S_new' (Kd.S_new' (Kd.S_new' (Kd.S_new' (Kd.S_new' (Kd.S_new' (Kd.S_new' (Kd.S_new' ho0 (Kd.R_lt (RU HO_588000.out))) (Kd.R_lt (RU HO_588001.out))) (Kd.R_lt (RU HO_589000.out))) (Kd.R_lt (RU HO_589001.out))) (Kd.R_lt (RU HO_597000.out))) (Kd.R_lt (RU HO_597001.out))) (Kd.R_lt (RU HO_605000.out))) (Kd.R_lt (RU HO_605001.out))) (Kd.S_lt (SU HO609.out))) (g := gb587) (o := .cells #[.slice Ao13 t575.length co13, .slice Ao16 t578.length co16] 26 (0, 0)) (kU BK587.out)) (g := gb588) (o := .cells #[.slice Ao17 t581.length co17, .slice Ao19 t584.length co19] 26 (0, 0)) (kU BK588.out)) (g := gb596) (o := .cells #[.slice Ao22 t589.length co22, .slice Ao26 t592.length co26] 26 (0, 0)) (kU BK596.out)) (g := gb604) (o := .cells #[.slice Ao31 t597.length co31, .slice Ao36 t600.length co36] 26 (0, 0)) (kU BK604.out)) (below_size (bS4 HB.out GE587.out GE588.out GE596.out GE604.out)))
         replace HO_588000 := Aside0.mk (Kd.R_below (RU HO_588000.out) hb)
         replace HO_588001 := Aside0.mk (Kd.R_below (RU HO_588001.out) hb)
         replace HO_589000 := Aside0.mk (Kd.R_below (RU HO_589000.out) hb)
         replace HO_589001 := Aside0.mk (Kd.R_below (RU HO_589001.out) hb)
         replace HO_597000 := Aside0.mk (Kd.R_below (RU HO_597000.out) hb)
         replace HO_597001 := Aside0.mk (Kd.R_below (RU HO_597001.out) hb)
         replace HO_605000 := Aside0.mk (Kd.R_below (RU HO_605000.out) hb)
         replace HO_605001 := Aside0.mk (Kd.R_below (RU HO_605001.out) hb)
         replace HO609 := Aside0.mk (Kd.S_elder' (SU HO609.out) (Kd.S_base ho0) hb)
         replace BK587 := Aside0.mk (blk_below (g := gb587) (o := .cells #[.slice Ao13 t575.length co13, .slice Ao16 t578.length co16] 26 (0, 0)) (kU BK587.out) hb)
         replace BK588 := Aside0.mk (blk_below (g := gb588) (o := .cells #[.slice Ao17 t581.length co17, .slice Ao19 t584.length co19] 26 (0, 0)) (kU BK588.out) hb)
         replace BK596 := Aside0.mk (blk_below (g := gb596) (o := .cells #[.slice Ao22 t589.length co22, .slice Ao26 t592.length co26] 26 (0, 0)) (kU BK596.out) hb)
         replace BK604 := Aside0.mk (blk_below (g := gb604) (o := .cells #[.slice Ao31 t597.length co31, .slice Ao36 t600.length co36] 26 (0, 0)) (kU BK604.out) hb)
         replace HB := Aside0.mk (below_step (bS4 HB.out GE587.out GE588.out GE596.out GE604.out) hb)
         (try clear hb)
         (try clear hb2)
         (try clear hk)
         (try clear hi)
         (try clear ho0)
         refine hK.out _ _ ⟨(blk_cell BK588.out 0).trans rfl, (blk_cell BK588.out 1).trans rfl, (blk_cell BK596.out 0).trans rfl, (blk_cell BK596.out 1).trans rfl⟩ (fun hHeld => ?_)
         clear hK K
         refine norm_ (a' := ?_) ?_ ?_
         rotate_left
         ·
          show Act.put _ (some 59) _ = _
          simp only [Act.put, List.setIfInBounds_toArray, List.set_cons_zero, List.set_cons_succ, i64_w, i32_w]
          rfl
         refine pure_ (i := 4) (N := some 9) (v := ?_) (a' := ?_) #[true, true, true, true, true, false] rfl rfl (by kernel_rfl) (fun _ _ _ h => h) (Or.inl ⟨by rfl, ?_⟩) ?_ ?_
         rotate_left
         ·
          intro w'
          go_simp
          with_reducible rfl
         rotate_left
         ·
          simp only [Act.put, List.setIfInBounds_toArray, List.set_cons_zero, List.set_cons_succ, i64_w, i32_w]
          rfl
         refine pure_ (i := 5) (N := some 10) (v := ?_) (a' := ?_) #[true, true, true, true, true, true] rfl rfl (by kernel_rfl) (fun _ _ _ h => h) (Or.inl ⟨by rfl, ?_⟩) ?_ ?_
         rotate_left
         ·
          intro w'
          go_simp
          with_reducible rfl
         rotate_left
         ·
          simp only [Act.put, List.setIfInBounds_toArray, List.set_cons_zero, List.set_cons_succ, i64_w, i32_w]
          rfl
         refine done_ (by kernel_rfl) ?_
         obtain ⟨Ao64, co64, eo64⟩ := Kd.S_slice HO609.out
         subst eo64
         have hnb65 := NB587_588.out
         have hnc65 := NB588_587.out
         have hnb66 := NB587_596.out
         have hnc66 := NB596_587.out
         have hnb67 := NB587_604.out
         have hnc67 := NB604_587.out
         have hcz68_0 : w63.cell? ⟨gb587, 0, none⟩ = some (.slice Ao13 t575.length co13) := (blk_cell BK587.out 0).trans rfl
         have hcz68_1 : w63.cell? ⟨gb587, 1, none⟩ = some (.slice Ao16 t578.length co16) := (blk_cell BK587.out 1).trans rfl
         have hfz68_0 := blk_frozen BK587.out 0
         have hfz68_1 := blk_frozen BK587.out 1
         have p613 : 0 ≤ (0 : Int) := (by omega)
         have q613 : 0 < (t578.length : Int) := of_decide_eq_true (by first | (with_reducible assumption) | assumption)
         obtain ⟨ad613, e613, hx613_0⟩ := Kd.at_int (Kd.R_reads' HO_588001.out).2.2 0 p613 q613
         cases e613
         have qi613 : (0 < t578.length) = True := eq_true (by omega)
         (try rw [show ((0 : Int)).toNat = 0 from rfl] at hx613_0)
         (try rw [Addr.add_zero'] at hx613_0)
         replace p613 := eq_true p613
         replace q613 := eq_true q613
         try go_wp2
         go_loopg [13] kj8 (fun kq v13 w' => ∃ (x13_2 : Int), v13 = .int .i64 x13_2 ∧ Aside0 (laws_FnRotated.l0 kq t607 t610 (t607.length : Int) (Int.tmod (wrap64 ((Int.tmod (rd t578 0) (t607.length : Int)) + (t607.length : Int))) (t607.length : Int)) x13_2 t581 t584 t589 t592 = some r) ∧ Aside0 (kq ≤ kj8) ∧ Aside0 (Kd.S k26 26 w' w.heap.size (fun k_ => some k_ ≠ (v611 : Value).ownBlock ∧ some k_ ≠ ((.slice Ao13 t575.length co13) : Value).ownBlock ∧ some k_ ≠ ((.slice (some ad613) t578.length co16) : Value).ownBlock ∧ some k_ ≠ ((.slice Ao17 t581.length co17) : Value).ownBlock ∧ some k_ ≠ ((.slice Ao19 t584.length co19) : Value).ownBlock ∧ some k_ ≠ ((.slice Ao22 t589.length co22) : Value).ownBlock ∧ some k_ ≠ ((.slice Ao26 t592.length co26) : Value).ownBlock ∧ some k_ ≠ ((.slice Ao31 t597.length co31) : Value).ownBlock ∧ some k_ ≠ ((.slice Ao36 t600.length co36) : Value).ownBlock ∧ k_ ≠ gb587 ∧ k_ ≠ gb588 ∧ k_ ≠ gb596 ∧ k_ ≠ gb604) (.slice Ao64 t607.length co64) t607) ∧ Aside0 (Kd.S k26 26 w' w.heap.size (fun k_ => some k_ ≠ ((.slice Ao64 t607.length co64) : Value).ownBlock ∧ some k_ ≠ ((.slice Ao13 t575.length co13) : Value).ownBlock ∧ some k_ ≠ ((.slice (some ad613) t578.length co16) : Value).ownBlock ∧ some k_ ≠ ((.slice Ao17 t581.length co17) : Value).ownBlock ∧ some k_ ≠ ((.slice Ao19 t584.length co19) : Value).ownBlock ∧ some k_ ≠ ((.slice Ao22 t589.length co22) : Value).ownBlock ∧ some k_ ≠ ((.slice Ao26 t592.length co26) : Value).ownBlock ∧ some k_ ≠ ((.slice Ao31 t597.length co31) : Value).ownBlock ∧ some k_ ≠ ((.slice Ao36 t600.length co36) : Value).ownBlock ∧ k_ ≠ gb587 ∧ k_ ≠ gb588 ∧ k_ ≠ gb596 ∧ k_ ≠ gb604) v611 t610) ∧ Aside0 (Kd.R (Kd.int .i64) 3 w' w.heap.size (fun k_ => some k_ ≠ ((.slice (some ad613) t578.length co16) : Value).ownBlock ∧ some k_ ≠ ((.slice Ao17 t581.length co17) : Value).ownBlock ∧ some k_ ≠ ((.slice Ao19 t584.length co19) : Value).ownBlock ∧ some k_ ≠ ((.slice Ao22 t589.length co22) : Value).ownBlock ∧ some k_ ≠ ((.slice Ao26 t592.length co26) : Value).ownBlock ∧ some k_ ≠ ((.slice Ao31 t597.length co31) : Value).ownBlock ∧ some k_ ≠ ((.slice Ao36 t600.length co36) : Value).ownBlock) (.slice Ao13 t575.length co13) t575) ∧ Aside0 (Kd.R (Kd.int .i64) 3 w' w.heap.size (fun k_ => some k_ ≠ ((.slice Ao13 t575.length co13) : Value).ownBlock ∧ some k_ ≠ ((.slice Ao17 t581.length co17) : Value).ownBlock ∧ some k_ ≠ ((.slice Ao19 t584.length co19) : Value).ownBlock ∧ some k_ ≠ ((.slice Ao22 t589.length co22) : Value).ownBlock ∧ some k_ ≠ ((.slice Ao26 t592.length co26) : Value).ownBlock ∧ some k_ ≠ ((.slice Ao31 t597.length co31) : Value).ownBlock ∧ some k_ ≠ ((.slice Ao36 t600.length co36) : Value).ownBlock) (.slice (some ad613) t578.length co16) t578) ∧ Aside0 (Kd.R (Kd.int .i64) 3 w' w.heap.size (fun k_ => some k_ ≠ ((.slice Ao13 t575.length co13) : Value).ownBlock ∧ some k_ ≠ ((.slice (some ad613) t578.length co16) : Value).ownBlock ∧ some k_ ≠ ((.slice Ao19 t584.length co19) : Value).ownBlock ∧ some k_ ≠ ((.slice Ao22 t589.length co22) : Value).ownBlock ∧ some k_ ≠ ((.slice Ao26 t592.length co26) : Value).ownBlock ∧ some k_ ≠ ((.slice Ao31 t597.length co31) : Value).ownBlock ∧ some k_ ≠ ((.slice Ao36 t600.length co36) : Value).ownBlock) (.slice Ao17 t581.length co17) t581) ∧ Aside0 (Kd.R (Kd.int .i64) 3 w' w.heap.size (fun k_ => some k_ ≠ ((.slice Ao13 t575.length co13) : Value).ownBlock ∧ some k_ ≠ ((.slice (some ad613) t578.length co16) : Value).ownBlock ∧ some k_ ≠ ((.slice Ao17 t581.length co17) : Value).ownBlock ∧ some k_ ≠ ((.slice Ao22 t589.length co22) : Value).ownBlock ∧ some k_ ≠ ((.slice Ao26 t592.length co26) : Value).ownBlock ∧ some k_ ≠ ((.slice Ao31 t597.length co31) : Value).ownBlock ∧ some k_ ≠ ((.slice Ao36 t600.length co36) : Value).ownBlock) (.slice Ao19 t584.length co19) t584) ∧ Aside0 (Kd.R (Kd.int .i64) 3 w' w.heap.size (fun k_ => some k_ ≠ ((.slice Ao13 t575.length co13) : Value).ownBlock ∧ some k_ ≠ ((.slice (some ad613) t578.length co16) : Value).ownBlock ∧ some k_ ≠ ((.slice Ao17 t581.length co17) : Value).ownBlock ∧ some k_ ≠ ((.slice Ao19 t584.length co19) : Value).ownBlock ∧ some k_ ≠ ((.slice Ao26 t592.length co26) : Value).ownBlock ∧ some k_ ≠ ((.slice Ao31 t597.length co31) : Value).ownBlock ∧ some k_ ≠ ((.slice Ao36 t600.length co36) : Value).ownBlock) (.slice Ao22 t589.length co22) t589) ∧ Aside0 (Kd.R (Kd.int .i64) 3 w' w.heap.size (fun k_ => some k_ ≠ ((.slice Ao13 t575.length co13) : Value).ownBlock ∧ some k_ ≠ ((.slice (some ad613) t578.length co16) : Value).ownBlock ∧ some k_ ≠ ((.slice Ao17 t581.length co17) : Value).ownBlock ∧ some k_ ≠ ((.slice Ao19 t584.length co19) : Value).ownBlock ∧ some k_ ≠ ((.slice Ao22 t589.length co22) : Value).ownBlock ∧ some k_ ≠ ((.slice Ao31 t597.length co31) : Value).ownBlock ∧ some k_ ≠ ((.slice Ao36 t600.length co36) : Value).ownBlock) (.slice Ao26 t592.length co26) t592) ∧ Aside0 (Kd.R (Kd.int .i64) 3 w' w.heap.size (fun k_ => some k_ ≠ ((.slice Ao13 t575.length co13) : Value).ownBlock ∧ some k_ ≠ ((.slice (some ad613) t578.length co16) : Value).ownBlock ∧ some k_ ≠ ((.slice Ao17 t581.length co17) : Value).ownBlock ∧ some k_ ≠ ((.slice Ao19 t584.length co19) : Value).ownBlock ∧ some k_ ≠ ((.slice Ao22 t589.length co22) : Value).ownBlock ∧ some k_ ≠ ((.slice Ao26 t592.length co26) : Value).ownBlock ∧ some k_ ≠ ((.slice Ao36 t600.length co36) : Value).ownBlock) (.slice Ao31 t597.length co31) t597) ∧ Aside0 (Kd.R (Kd.int .i64) 3 w' w.heap.size (fun k_ => some k_ ≠ ((.slice Ao13 t575.length co13) : Value).ownBlock ∧ some k_ ≠ ((.slice (some ad613) t578.length co16) : Value).ownBlock ∧ some k_ ≠ ((.slice Ao17 t581.length co17) : Value).ownBlock ∧ some k_ ≠ ((.slice Ao19 t584.length co19) : Value).ownBlock ∧ some k_ ≠ ((.slice Ao22 t589.length co22) : Value).ownBlock ∧ some k_ ≠ ((.slice Ao26 t592.length co26) : Value).ownBlock ∧ some k_ ≠ ((.slice Ao31 t597.length co31) : Value).ownBlock) (.slice Ao36 t600.length co36) t600) ∧ Aside0 (w'.heap[gb587]? = some (.cells #[(.slice Ao13 t575.length co13), (.slice (some ad613) t578.length co16)] 26 (0, 0))) ∧ Aside0 (w'.heap[gb588]? = some (.cells #[(.slice Ao17 t581.length co17), (.slice Ao19 t584.length co19)] 26 (0, 0))) ∧ Aside0 (w'.heap[gb596]? = some (.cells #[(.slice Ao22 t589.length co22), (.slice Ao26 t592.length co26)] 26 (0, 0))) ∧ Aside0 (w'.heap[gb604]? = some (.cells #[(.slice Ao31 t597.length co31), (.slice Ao36 t600.length co36)] 26 (0, 0))) ∧ Aside0 (Below w.heap.size w w'))
         case atStart => exact ⟨(0), (by first | rfl | (simp; done) | (simp [*]; done)), H', ⟨Nat.le_refl _⟩, ⟨by (with_reducible repeat (first | apply Kd.S_alloc | apply Kd.S_drewN | apply Kd.S_drew)); exact Kd.S_mono HO609.out (fun _ hk => ⟨hk.2, ⟨hk.1.1.1.1.1.1.1.1.1.1.1.1.2, ⟨hk.1.1.1.1.1.1.1.1.1.1.1.2, ⟨hk.1.1.1.1.1.1.1.1.1.1.2, ⟨hk.1.1.1.1.1.1.1.1.1.2, ⟨hk.1.1.1.1.1.1.1.1.2, ⟨hk.1.1.1.1.1.1.1.2, ⟨hk.1.1.1.1.1.1.2, ⟨hk.1.1.1.1.1.2, ⟨hk.1.1.1.1.2, ⟨hk.1.1.1.2, ⟨hk.1.1.2, hk.1.2⟩⟩⟩⟩⟩⟩⟩⟩⟩⟩⟩⟩)⟩, ⟨by (with_reducible repeat (first | apply Kd.S_alloc | apply Kd.S_drewN | apply Kd.S_drew)); exact Kd.S_mono HO612.out (fun _ hk => ⟨hk.1.1.1.1.2, ⟨hk.1.1.1.1.1.1.1.1.1.1.1.1.2, ⟨hk.1.1.1.1.1.1.1.1.1.1.1.2, ⟨hk.1.1.1.1.1.1.1.1.1.1.2, ⟨hk.1.1.1.1.1.1.1.1.1.2, ⟨hk.1.1.1.1.1.1.1.1.2, ⟨hk.1.1.1.1.1.1.1.2, ⟨hk.1.1.1.1.1.1.2, ⟨hk.1.1.1.1.1.2, ⟨hk.1.1.1.2, ⟨hk.1.1.2, ⟨hk.1.2, hk.2⟩⟩⟩⟩⟩⟩⟩⟩⟩⟩⟩⟩)⟩, ⟨by (with_reducible repeat (first | apply Kd.R_alloc | apply Kd.R_drewN | apply Kd.R_drew)); exact HO_588000.out⟩, ⟨by (with_reducible repeat (first | apply Kd.R_alloc | apply Kd.R_drewN | apply Kd.R_drew)); exact HO_588001.out⟩, ⟨by (with_reducible repeat (first | apply Kd.R_alloc | apply Kd.R_drewN | apply Kd.R_drew)); exact HO_589000.out⟩, ⟨by (with_reducible repeat (first | apply Kd.R_alloc | apply Kd.R_drewN | apply Kd.R_drew)); exact HO_589001.out⟩, ⟨by (with_reducible repeat (first | apply Kd.R_alloc | apply Kd.R_drewN | apply Kd.R_drew)); exact HO_597000.out⟩, ⟨by (with_reducible repeat (first | apply Kd.R_alloc | apply Kd.R_drewN | apply Kd.R_drew)); exact HO_597001.out⟩, ⟨by (with_reducible repeat (first | apply Kd.R_alloc | apply Kd.R_drewN | apply Kd.R_drew)); exact HO_605000.out⟩, ⟨by (with_reducible repeat (first | apply Kd.R_alloc | apply Kd.R_drewN | apply Kd.R_drew)); exact HO_605001.out⟩, ⟨by (with_reducible repeat (first | refine blk_drewN ?_ _ | refine blk_drew ?_ | refine blk_alloc ?_ _)); exact BK587.out⟩, ⟨by (with_reducible repeat (first | refine blk_drewN ?_ _ | refine blk_drew ?_ | refine blk_alloc ?_ _)); exact BK588.out⟩, ⟨by (with_reducible repeat (first | refine blk_drewN ?_ _ | refine blk_drew ?_ | refine blk_alloc ?_ _)); exact BK596.out⟩, ⟨by (with_reducible repeat (first | refine blk_drewN ?_ _ | refine blk_drew ?_ | refine blk_alloc ?_ _)); exact BK604.out⟩, ⟨by repeat (first | (with_reducible first | exact HB.out | apply below_alloc | apply pw_below_drewN | apply below_drew1 | refine below_set ?_ GE587.out | refine below_set ?_ GE588.out | refine below_set ?_ GE596.out | refine below_set ?_ GE604.out) | exact HB.out)⟩⟩
         case round =>
          clear H'
          try clear c1
          try clear c2
          try clear p2
          try clear c3
          try clear c4
          try clear c5
          try clear c6
          try clear p6
          try clear q6
          try clear hx6
          try clear qi6
          try clear c7
          try clear c7b0
          try clear c7b1
          try clear c8
          try clear c8b0
          try clear c8b1
          try clear c12
          try clear c13
          try clear c14
          try clear c15
          try clear c16
          try clear c17
          try clear c23
          try clear c24
          try clear c32
          try clear c33
          try clear c34
          try clear c37
          try clear c37b0
          try clear c37b1
          try clear c37b2
          try clear c38
          try clear c39
          try clear c40
          try clear c42
          try clear c42b0
          try clear c42b1
          try clear c43
          try clear c44
          try clear c45
          try clear c47
          try clear c49
          try clear c50
          try clear c51
          try clear c53
          try clear c54
          try clear c59
          try clear c59b0
          try clear c59b1
          try clear c60
          try clear c60b0
          try clear c60b1
          try clear c60b2
          try clear p60
          try clear q60
          try clear hx60
          try clear qi60
          try clear p61
          try clear q61
          try clear hx61
          try clear qi61
          try clear p64
          try clear c65
          try clear c66
          try clear c67
          try clear hcz15_0
          try clear hcz15_1
          try clear hcz18_0
          try clear hcz18_1
          try clear hcz25_0
          try clear hcz25_1
          try clear hcz27_0
          try clear hcz27_1
          try clear hcz28_0
          try clear hcz28_1
          try clear hcz35_0
          try clear hcz35_1
          try clear hcz41_0
          try clear hcz41_1
          try clear hcz46_0
          try clear hcz46_1
          try clear hcz52_0
          try clear hcz52_1
          try clear hcz55_0
          try clear hcz55_1
          try clear hcz68_0
          try clear hcz68_1
          try clear hfz15_0
          try clear hfz15_1
          try clear hfz18_0
          try clear hfz18_1
          try clear hfz25_0
          try clear hfz25_1
          try clear hfz27_0
          try clear hfz27_1
          try clear hfz28_0
          try clear hfz28_1
          try clear hfz35_0
          try clear hfz35_1
          try clear hfz41_0
          try clear hfz41_1
          try clear hfz46_0
          try clear hfz46_1
          try clear hfz52_0
          try clear hfz52_1
          try clear hfz55_0
          try clear hfz55_1
          try clear hfz68_0
          try clear hfz68_1
          try clear hx605_0
          try clear hx613_0
          try clear p2
          try clear p6
          try clear p605
          try clear p613
          try clear q6
          try clear q605
          try clear q613
          obtain ⟨x13_2, rfl, HA, HK2, HO_9, HO_10, HO_588000, HO_588001, HO_589000, HO_589001, HO_597000, HO_597001, HO_605000, HO_605001, BK587, BK588, BK596, BK604, HB⟩ := hrel
          cases gk with
          | zero => exact absurd HA.out (by simp [laws_FnRotated.l0])
          | succ k2 =>
           have H := HA.out
           clear HA
           simp only [laws_FnRotated.l0] at H
           by_cases c69 : x13_2 < (t607.length : Int)
           ·
            rw [if_pos c69] at H
            have c69b0 : decide (x13_2 < (t607.length : Int)) = true := decide_eq_true c69
            clear c69
            by_cases c70 : 0 ≤ x13_2
            ·
             rw [if_pos c70] at H
             have c70b0 : decide (0 ≤ x13_2) = true := decide_eq_true c70
             clear c70
             by_cases c71 : x13_2 < (t610.length : Int)
             ·
              rw [if_pos c71] at H
              have c71b0 : decide (x13_2 < (t610.length : Int)) = true := decide_eq_true c71
              clear c71
              by_cases c72 : (t607.length : Int) = 0
              ·
               rw [if_pos c72] at H
               exact absurd H (by simp)
              ·
               rw [if_neg c72] at H
               have c72b0 : ((t607.length : Int) == 0) = false := beq_eq_false_iff_ne.mpr c72
               have c72b1 : ((t607.length : Int) != 0) = true := bne_iff_ne.mpr c72
               have c72b2 : ¬ (t607 = []) := fun h_ => c72 (by rw [h_]; rfl)
               obtain ⟨ji73, hji73⟩ : ∃ j_ : Int, (Int.tmod (wrap64 (x13_2 + (Int.tmod (wrap64 ((Int.tmod (rd t578 0) (t607.length : Int)) + (t607.length : Int))) (t607.length : Int)))) (t607.length : Int)) = j_ := ⟨_, rfl⟩
               replace H : (if 0 ≤ (ji73) then (if (ji73) < (t607.length : Int) then ((laws_sameArray.f k2 ((rd_T26 t610 x13_2).f0) ((rd_T26 t610 x13_2).f1) ((rd_T26 t607 (ji73)).f0) ((rd_T26 t607 (ji73)).f1)).bind fun t616 => (if t616 = true then (laws_FnRotated.l0 k2 t607 t610 (t607.length : Int) (Int.tmod (wrap64 ((Int.tmod (rd t578 0) (t607.length : Int)) + (t607.length : Int))) (t607.length : Int)) (wrap64 (x13_2 + 1)) t581 t584 t589 t592) else (some false))) else (none)) else (none)) = some r := by first | (rw [hji73] at H; exact H) | (simp only [hji73] at H ⊢; exact H)
               by_cases c74 : 0 ≤ (ji73)
               ·
                rw [if_pos c74] at H
                have c74b0 : decide (0 ≤ (ji73)) = true := decide_eq_true c74
                clear c74
                by_cases c75 : (ji73) < (t607.length : Int)
                ·
                 rw [if_pos c75] at H
                 have c75b0 : decide ((ji73) < (t607.length : Int)) = true := decide_eq_true c75
                 clear c75
                 replace H := Option.bind_eq_some_iff.mp H
                 obtain ⟨t616, A760, H⟩ := H
                 replace H : (if t616 = true then (laws_FnRotated.l0 k2 t607 t610 (t607.length : Int) (Int.tmod (wrap64 ((Int.tmod (rd t578 0) (t607.length : Int)) + (t607.length : Int))) (t607.length : Int)) (wrap64 (x13_2 + 1)) t581 t584 t589 t592) else (some false)) = some r := H
                 have A76 := Aside0.mk A760
                 clear A760
                 by_cases c77 : t616 = true
                 ·
                  subst c77
                  have H1 : (laws_FnRotated.l0 k2 t607 t610 (t607.length : Int) (Int.tmod (wrap64 ((Int.tmod (rd t578 0) (t607.length : Int)) + (t607.length : Int))) (t607.length : Int)) (wrap64 (x13_2 + 1)) t581 t584 t589 t592) = some r := by rw [if_pos rfl] at H; exact H
                  clear H
                  have H := H1
                  clear H1
                  have H' := Aside0.mk H
                  clear H
                  try go_wp2
                  replace HO_9 := Aside0.mk (Kd.S_drew HO_9.out)
                  replace HO_10 := Aside0.mk (Kd.S_drew HO_10.out)
                  replace HO_588000 := Aside0.mk (Kd.R_drew HO_588000.out)
                  replace HO_588001 := Aside0.mk (Kd.R_drew HO_588001.out)
                  replace HO_589000 := Aside0.mk (Kd.R_drew HO_589000.out)
                  replace HO_589001 := Aside0.mk (Kd.R_drew HO_589001.out)
                  replace HO_597000 := Aside0.mk (Kd.R_drew HO_597000.out)
                  replace HO_597001 := Aside0.mk (Kd.R_drew HO_597001.out)
                  replace HO_605000 := Aside0.mk (Kd.R_drew HO_605000.out)
                  replace HO_605001 := Aside0.mk (Kd.R_drew HO_605001.out)
                  replace BK587 := Aside0.mk (blk_drew BK587.out)
                  replace BK588 := Aside0.mk (blk_drew BK588.out)
                  replace BK596 := Aside0.mk (blk_drew BK596.out)
                  replace BK604 := Aside0.mk (blk_drew BK604.out)
                  replace HB := Aside0.mk (below_drew1 HB.out)
                  obtain ⟨Ao79, co79, eo79⟩ := Kd.S_slice HO_10.out
                  (first | subst eo79 | (injection eo79 with f1_ f2_ f3_; have f4_ := f1_.symm; have f5_ := f3_.symm; clear f1_ f2_ f3_; subst f4_; subst f5_))
                  have p614 : 0 ≤ (x13_2 : Int) := of_decide_eq_true (by first | (with_reducible assumption) | assumption)
                  have q614 : x13_2 < (t610.length : Int) := of_decide_eq_true (by first | (with_reducible assumption) | assumption)
                  obtain ⟨ad614, A614_0, c614_0, A614_1, c614_1, e614, hx614_0, hx614_1, hl614_0, hi614_0, hl614_1, hi614_1⟩ := at_T26 (Kd.S_reads' HO_10.out).2.2 x13_2 p614 q614
                  cases e614
                  obtain ⟨ce614, hce614, hMe614, hcc614⟩ := Kd.S_get HO_10.out z26 x13_2 p614 (by first | exact q614 | exact of_decide_eq_true (by first | (with_reducible assumption) | assumption) | (have e_ := (Kd.S_reads' HO_10.out).1; omega))
                  obtain ⟨ve614_0, ve614_1, rfl, ge614_0, ge614_1⟩ := k26_openM hMe614
                  have hv614_0 := hcc614 0 _ rfl
                  rw [Nat.add_zero] at hv614_0
                  replace hv614_0 := Option.some.inj (hv614_0.symm.trans hx614_0)
                  rw [hv614_0] at ge614_0
                  have HL614_0 := Aside0.mk (show Kd.R (Kd.int .i64) 3 _ _ _ _ ((rd_T26 t610 x13_2).f0) from ge614_0)
                  clear hv614_0 ge614_0
                  have hv614_1 := hcc614 1 _ rfl
                  rw [add_field _ _ 1 (by omega)] at hv614_1
                  replace hv614_1 := Option.some.inj (hv614_1.symm.trans hx614_1)
                  rw [hv614_1] at ge614_1
                  have HL614_1 := Aside0.mk (show Kd.R (Kd.int .i64) 3 _ _ _ _ ((rd_T26 t610 x13_2).f1) from ge614_1)
                  clear hv614_1 ge614_1
                  clear hcc614 hce614
                  have HR614_0 := Aside0.mk hi614_0
                  have HC614_0 := Aside0.mk hl614_0
                  clear hi614_0 hl614_0
                  have HR614_1 := Aside0.mk hi614_1
                  have HC614_1 := Aside0.mk hl614_1
                  clear hi614_1 hl614_1
                  replace p614 := eq_true p614
                  replace q614 := eq_true q614
                  have p615 : 0 ≤ ((ji73) : Int) := of_decide_eq_true (by first | (with_reducible assumption) | assumption)
                  have q615 : (ji73) < (t607.length : Int) := of_decide_eq_true (by first | (with_reducible assumption) | assumption)
                  obtain ⟨ad615, A615_0, c615_0, A615_1, c615_1, e615, hx615_0, hx615_1, hl615_0, hi615_0, hl615_1, hi615_1⟩ := at_T26 (Kd.S_reads' HO_9.out).2.2 (ji73) p615 q615
                  cases e615
                  obtain ⟨ce615, hce615, hMe615, hcc615⟩ := Kd.S_get HO_9.out z26 (ji73) p615 (by first | exact q615 | exact of_decide_eq_true (by first | (with_reducible assumption) | assumption) | (have e_ := (Kd.S_reads' HO_9.out).1; omega))
                  obtain ⟨ve615_0, ve615_1, rfl, ge615_0, ge615_1⟩ := k26_openM hMe615
                  have hv615_0 := hcc615 0 _ rfl
                  rw [Nat.add_zero] at hv615_0
                  replace hv615_0 := Option.some.inj (hv615_0.symm.trans hx615_0)
                  rw [hv615_0] at ge615_0
                  have HL615_0 := Aside0.mk (show Kd.R (Kd.int .i64) 3 _ _ _ _ ((rd_T26 t607 (ji73)).f0) from ge615_0)
                  clear hv615_0 ge615_0
                  have hv615_1 := hcc615 1 _ rfl
                  rw [add_field _ _ 1 (by omega)] at hv615_1
                  replace hv615_1 := Option.some.inj (hv615_1.symm.trans hx615_1)
                  rw [hv615_1] at ge615_1
                  have HL615_1 := Aside0.mk (show Kd.R (Kd.int .i64) 3 _ _ _ _ ((rd_T26 t607 (ji73)).f1) from ge615_1)
                  clear hv615_1 ge615_1
                  clear hcc615 hce615
                  have HR615_0 := Aside0.mk hi615_0
                  have HC615_0 := Aside0.mk hl615_0
                  clear hi615_0 hl615_0
                  have HR615_1 := Aside0.mk hi615_1
                  have HC615_1 := Aside0.mk hl615_1
                  clear hi615_1 hl615_1
                  replace p615 := eq_true p615
                  replace q615 := eq_true q615
                  refine start_ (n := 14) (S := fun w' => w'.cell? (ad614.add ((x13_2).toNat * 2)) = some (.slice A614_0 ((rd_T26 t610 x13_2).f0).length c614_0) ∧ w'.cell? ⟨(ad614.add ((x13_2).toNat * 2)).block, (ad614.add ((x13_2).toNat * 2)).off + 1, none⟩ = some (.slice A614_1 ((rd_T26 t610 x13_2).f1).length c614_1) ∧ w'.cell? (ad615.add (((ji73)).toNat * 2)) = some (.slice A615_0 ((rd_T26 t607 (ji73)).f0).length c615_0) ∧ w'.cell? ⟨(ad615.add (((ji73)).toNat * 2)).block, (ad615.add (((ji73)).toNat * 2)).off + 1, none⟩ = some (.slice A615_1 ((rd_T26 t607 (ji73)).f1).length c615_1)) (ds := []) #[false, false, false, false, false, false, false, false, false, false, false, false, false, false] (by kernel_rfl) rfl rfl ⟨hx614_0, hx614_1, hx615_0, hx615_1⟩ (fun hHeld => ?_); refine with_tabW laws_FnRotated.tab18 laws_FnRotated.bits18 (fun HT_ HW_ => ?_)
                  generalize wr.drew = w78 at HO_9 HO_10 HO_588000 HO_588001 HO_589000 HO_589001 HO_597000 HO_597001 HO_605000 HO_605001 BK587 BK588 BK596 BK604 HB HL614_0 HL614_1 HL615_0 HL615_1 HR614_0 HR614_1 HR615_0 HR615_1 hx614_0 hx614_1 hx615_0 hx615_1 hHeld ⊢
                  refine pure_ (i := 0) (N := some 77) (v := ?_) (a' := ?_) #[true, false, false, false, false, false, false, false, false, false, false, false, false, false] rfl rfl (any_of HT_.out (by kernel_rfl)) (fun _ _ _ h => h) (Or.inl ⟨by rfl, ?_⟩) ?_ ?_
                  rotate_left
                  ·
                   intro w'
                   go_simp
                   with_reducible rfl
                  rotate_left
                  ·
                   simp only [Act.put, List.setIfInBounds_toArray, List.set_cons_zero, List.set_cons_succ, i64_w, i32_w]
                   rfl
                  refine pure_ (i := 1) (N := some 78) (v := ?_) (a' := ?_) #[true, true, false, false, false, false, false, false, false, false, false, false, false, false] rfl rfl (any_of HT_.out (by kernel_rfl)) (fun _ _ _ h => h) (Or.inl ⟨by rfl, ?_⟩) ?_ ?_
                  rotate_left
                  ·
                   intro w'
                   go_simp
                   with_reducible rfl
                  rotate_left
                  ·
                   simp only [Act.put, List.setIfInBounds_toArray, List.set_cons_zero, List.set_cons_succ, i64_w, i32_w]
                   rfl
                  refine pure_ (i := 2) (N := some 79) (v := ?_) (a' := ?_) #[true, true, true, false, false, false, false, false, false, false, false, false, false, false] rfl rfl (any_of HT_.out (by kernel_rfl)) (fun _ _ _ h => h) (Or.inl ⟨by rfl, ?_⟩) ?_ ?_
                  rotate_left
                  ·
                   intro w'
                   go_simp
                   with_reducible rfl
                  rotate_left
                  ·
                   simp only [Act.put, List.setIfInBounds_toArray, List.set_cons_zero, List.set_cons_succ, i64_w, i32_w]
                   rfl
                  refine pure_ (i := 4) (N := some 81) (v := ?_) (a' := ?_) #[true, true, true, false, true, false, false, false, false, false, false, false, false, false] rfl rfl (any_of HT_.out (by kernel_rfl)) (fun _ _ _ h => h) (Or.inl ⟨by rfl, ?_⟩) ?_ ?_
                  rotate_left
                  ·
                   intro w'
                   go_simp
                   with_reducible rfl
                  rotate_left
                  ·
                   simp only [Act.put, List.setIfInBounds_toArray, List.set_cons_zero, List.set_cons_succ, i64_w, i32_w]
                   rfl
                  refine pure_ (i := 5) (N := some 82) (v := ?_) (a' := ?_) #[true, true, true, false, true, true, false, false, false, false, false, false, false, false] rfl rfl (any_of HT_.out (by kernel_rfl)) (fun _ _ _ h => h) (Or.inl ⟨by rfl, ?_⟩) ?_ ?_
                  rotate_left
                  ·
                   intro w'
                   go_simp
                   with_reducible rfl
                  rotate_left
                  ·
                   simp only [Act.put, List.setIfInBounds_toArray, List.set_cons_zero, List.set_cons_succ, i64_w, i32_w]
                   rfl
                  refine pure_ (i := 6) (N := some 83) (v := ?_) (a' := ?_) #[true, true, true, false, true, true, true, false, false, false, false, false, false, false] rfl rfl (any_of HT_.out (by kernel_rfl)) (fun _ _ _ h => h) (Or.inl ⟨by rfl, ?_⟩) ?_ ?_
                  rotate_left
                  ·
                   intro w'
                   go_simp
                   with_reducible rfl
                  rotate_left
                  ·
                   simp only [Act.put, List.setIfInBounds_toArray, List.set_cons_zero, List.set_cons_succ, i64_w, i32_w]
                   rfl
                  refine pure_ (i := 7) (N := some 84) (v := ?_) (a' := ?_) #[true, true, true, false, true, true, true, true, false, false, false, false, false, false] rfl rfl (any_of HT_.out (by kernel_rfl)) (fun _ _ _ h => h) (Or.inl ⟨by rfl, ?_⟩) ?_ ?_
                  rotate_left
                  ·
                   intro w'
                   go_simp
                   with_reducible rfl
                  rotate_left
                  ·
                   simp only [Act.put, List.setIfInBounds_toArray, List.set_cons_zero, List.set_cons_succ, i64_w, i32_w]
                   rfl
                  refine pure_ (i := 8) (N := some 85) (v := ?_) (a' := ?_) #[true, true, true, false, true, true, true, true, true, false, false, false, false, false] rfl rfl (any_of HT_.out (by kernel_rfl)) (fun _ _ _ h => h) (Or.inl ⟨by rfl, ?_⟩) ?_ ?_
                  rotate_left
                  ·
                   intro w'
                   go_simp
                   with_reducible rfl
                  rotate_left
                  ·
                   simp only [Act.put, List.setIfInBounds_toArray, List.set_cons_zero, List.set_cons_succ, i64_w, i32_w]
                   rfl
                  refine pure_ (i := 9) (N := some 86) (v := ?_) (a' := ?_) #[true, true, true, false, true, true, true, true, true, true, false, false, false, false] rfl rfl (any_of HT_.out (by kernel_rfl)) (fun _ _ _ h => h) (Or.inl ⟨by rfl, ?_⟩) ?_ ?_
                  rotate_left
                  ·
                   intro w'
                   go_simp
                   with_reducible rfl
                  rotate_left
                  ·
                   simp only [Act.put, List.setIfInBounds_toArray, List.set_cons_zero, List.set_cons_succ, i64_w, i32_w]
                   rfl
                  refine pure_ (i := 10) (N := some 87) (v := ?_) (a' := ?_) #[true, true, true, false, true, true, true, true, true, true, true, false, false, false] rfl rfl (any_of HT_.out (by kernel_rfl)) (fun _ _ _ h => h) (Or.inl ⟨by rfl, ?_⟩) ?_ ?_
                  rotate_left
                  ·
                   intro w'
                   go_simp
                   with_reducible rfl
                  rotate_left
                  ·
                   simp only [Act.put, List.setIfInBounds_toArray, List.set_cons_zero, List.set_cons_succ, i64_w, i32_w]
                   rfl
                  refine take_ (i := 3) (N := some 80) (v := ?_) (a' := ?_) #[true, true, true, true, true, true, true, true, true, true, true, false, false, false] rfl rfl (take_ofW HT_.out HW_.out (by kernel_rfl)) (fun _ _ _ h => h) (Or.inl ⟨by rfl, ?_⟩) hHeld ?_ ?_
                  rotate_left
                  ·
                   rintro w' ⟨s0, s1, s2, s3⟩
                   go_simp
                   with_reducible rfl
                  rotate_left
                  ·
                   simp only [Act.put, List.setIfInBounds_toArray, List.set_cons_zero, List.set_cons_succ, i64_w, i32_w]
                   rfl
                  refine take_ (i := 11) (N := some 88) (v := ?_) (a' := ?_) #[true, true, true, true, true, true, true, true, true, true, true, true, false, false] rfl rfl (take_ofW HT_.out HW_.out (by kernel_rfl)) (fun _ _ _ h => h) (Or.inl ⟨by rfl, ?_⟩) hHeld ?_ ?_
                  rotate_left
                  ·
                   rintro w' ⟨s0, s1, s2, s3⟩
                   go_simp
                   with_reducible rfl
                  rotate_left
                  ·
                   simp only [Act.put, List.setIfInBounds_toArray, List.set_cons_zero, List.set_cons_succ, i64_w, i32_w]
                   rfl
                  refine one_ (i := 12) (N := some 89) #[true, true, true, true, true, true, true, true, true, true, true, true, true, false] rfl rfl (one_of HT_.out (by kernel_rfl)) (by decide) (fun K hK => ?_)
                  refine goes_ Try.func16 (by kernel_rfl) rfl #[.agg #[.slice A614_0 ((rd_T26 t610 x13_2).f0).length c614_0, .slice A614_1 ((rd_T26 t610 x13_2).f1).length c614_1], .agg #[.slice A615_0 ((rd_T26 t607 (ji73)).f0).length c615_0, .slice A615_1 ((rd_T26 t607 (ji73)).f1).length c615_1]] (by rfl) rfl rfl (by (try simp only [List.map_toArray, List.map_cons, List.map_nil]); first | done | (simp only [hji73]; rfl) | rfl | (simp only [List.length_drop, List.length_take]; rfl)) ?_
                  with_reducible refine (laws_sameArray.calls k2 _ _ ((rd_T26 t610 x13_2).f0) _ _ ((rd_T26 t610 x13_2).f1) _ _ ((rd_T26 t607 (ji73)).f0) _ _ ((rd_T26 t607 (ji73)).f1) true _ ?side1 ?side2 ?side3 ?side4 ?side5 ?side6 ?side7 ?side8 A76.out).mono ?_
                  (case side1 => repeat (first | exact (by repeat (first | (with_reducible exact HR614_0.out) | (with_reducible refine Kd.C_alloc ?_ _) | (with_reducible refine Kd.C_drewN ?_ _) | (with_reducible refine Kd.C_drew ?_) | exact HR614_0.out)) | (with_reducible refine Kd.C_alloc ?_ _) | (with_reducible refine Kd.C_drewN ?_ _) | (with_reducible refine Kd.C_drew ?_)))
                  (case side2 => exact HC614_0.out)
                  (case side3 => repeat (first | exact (by repeat (first | (with_reducible exact HR614_1.out) | (with_reducible refine Kd.C_alloc ?_ _) | (with_reducible refine Kd.C_drewN ?_ _) | (with_reducible refine Kd.C_drew ?_) | exact HR614_1.out)) | (with_reducible refine Kd.C_alloc ?_ _) | (with_reducible refine Kd.C_drewN ?_ _) | (with_reducible refine Kd.C_drew ?_)))
                  (case side4 => exact HC614_1.out)
                  (case side5 => repeat (first | exact (by repeat (first | (with_reducible exact HR615_0.out) | (with_reducible refine Kd.C_alloc ?_ _) | (with_reducible refine Kd.C_drewN ?_ _) | (with_reducible refine Kd.C_drew ?_) | exact HR615_0.out)) | (with_reducible refine Kd.C_alloc ?_ _) | (with_reducible refine Kd.C_drewN ?_ _) | (with_reducible refine Kd.C_drew ?_)))
                  (case side6 => exact HC615_0.out)
                  (case side7 => repeat (first | exact (by repeat (first | (with_reducible exact HR615_1.out) | (with_reducible refine Kd.C_alloc ?_ _) | (with_reducible refine Kd.C_drewN ?_ _) | (with_reducible refine Kd.C_drew ?_) | exact HR615_1.out)) | (with_reducible refine Kd.C_alloc ?_ _) | (with_reducible refine Kd.C_drewN ?_ _) | (with_reducible refine Kd.C_drew ?_)))
                  (case side8 => exact HC615_1.out)
                  rintro e w80 ⟨rfl, hb⟩
                  have HS0_ := (hb.cell (World.block_lt_of_cell? _ _ (hHeld.1))).trans (hHeld.1)
                  have HS1_ := (hb.cell (World.block_lt_of_cell? _ _ (hHeld.2.1))).trans (hHeld.2.1)
                  have HS2_ := (hb.cell (World.block_lt_of_cell? _ _ (hHeld.2.2.1))).trans (hHeld.2.2.1)
                  have HS3_ := (hb.cell (World.block_lt_of_cell? _ _ (hHeld.2.2.2))).trans (hHeld.2.2.2)
                  refine ⟨_, rfl, ?_⟩
                  replace HO_9 := Aside0.mk (Kd.S_below (SU HO_9.out) hb)
                  replace HO_10 := Aside0.mk (Kd.S_below (SU HO_10.out) hb)
                  replace HO_588000 := Aside0.mk (Kd.R_below (RU HO_588000.out) hb)
                  replace HO_588001 := Aside0.mk (Kd.R_below (RU HO_588001.out) hb)
                  replace HO_589000 := Aside0.mk (Kd.R_below (RU HO_589000.out) hb)
                  replace HO_589001 := Aside0.mk (Kd.R_below (RU HO_589001.out) hb)
                  replace HO_597000 := Aside0.mk (Kd.R_below (RU HO_597000.out) hb)
                  replace HO_597001 := Aside0.mk (Kd.R_below (RU HO_597001.out) hb)
                  replace HO_605000 := Aside0.mk (Kd.R_below (RU HO_605000.out) hb)
                  replace HO_605001 := Aside0.mk (Kd.R_below (RU HO_605001.out) hb)
                  replace HL614_0 := Aside0.mk (Kd.R_below (RU HL614_0.out) hb)
                  replace HL614_1 := Aside0.mk (Kd.R_below (RU HL614_1.out) hb)
                  replace HL615_0 := Aside0.mk (Kd.R_below (RU HL615_0.out) hb)
                  replace HL615_1 := Aside0.mk (Kd.R_below (RU HL615_1.out) hb)
                  replace BK587 := Aside0.mk (blk_below (g := gb587) (o := .cells #[.slice Ao13 t575.length co13, .slice (some ad613) t578.length co16] 26 (0, 0)) (kU BK587.out) hb)
                  replace BK588 := Aside0.mk (blk_below (g := gb588) (o := .cells #[.slice Ao17 t581.length co17, .slice Ao19 t584.length co19] 26 (0, 0)) (kU BK588.out) hb)
                  replace BK596 := Aside0.mk (blk_below (g := gb596) (o := .cells #[.slice Ao22 t589.length co22, .slice Ao26 t592.length co26] 26 (0, 0)) (kU BK596.out) hb)
                  replace BK604 := Aside0.mk (blk_below (g := gb604) (o := .cells #[.slice Ao31 t597.length co31, .slice Ao36 t600.length co36] 26 (0, 0)) (kU BK604.out) hb)
                  replace HR614_0 := Aside0.mk (Kd.C_below (by repeat (first | (with_reducible exact HR614_0.out) | (with_reducible refine Kd.C_alloc ?_ _) | (with_reducible refine Kd.C_drewN ?_ _) | (with_reducible refine Kd.C_drew ?_) | exact HR614_0.out)) hb)
                  replace HR614_1 := Aside0.mk (Kd.C_below (by repeat (first | (with_reducible exact HR614_1.out) | (with_reducible refine Kd.C_alloc ?_ _) | (with_reducible refine Kd.C_drewN ?_ _) | (with_reducible refine Kd.C_drew ?_) | exact HR614_1.out)) hb)
                  replace HR615_0 := Aside0.mk (Kd.C_below (by repeat (first | (with_reducible exact HR615_0.out) | (with_reducible refine Kd.C_alloc ?_ _) | (with_reducible refine Kd.C_drewN ?_ _) | (with_reducible refine Kd.C_drew ?_) | exact HR615_0.out)) hb)
                  replace HR615_1 := Aside0.mk (Kd.C_below (by repeat (first | (with_reducible exact HR615_1.out) | (with_reducible refine Kd.C_alloc ?_ _) | (with_reducible refine Kd.C_drewN ?_ _) | (with_reducible refine Kd.C_drew ?_) | exact HR615_1.out)) hb)
                  replace HB := Aside0.mk (below_step (bS4 HB.out GE587.out GE588.out GE596.out GE604.out) hb)
                  (try clear hb)
                  (try clear hb2)
                  (try clear hk)
                  (try clear hi)
                  refine hK.out _ _ ⟨HS0_, HS1_, HS2_, HS3_⟩ (fun hHeld => ?_)
                  clear hK K
                  refine norm_ (a' := ?_) ?_ ?_
                  rotate_left
                  ·
                   show Act.put _ (some 89) _ = _
                   simp only [Act.put, List.setIfInBounds_toArray, List.set_cons_zero, List.set_cons_succ, i64_w, i32_w]
                   rfl
                  refine pure_ (i := 13) (N := some 90) (v := ?_) (a' := ?_) #[true, true, true, true, true, true, true, true, true, true, true, true, true, true] rfl rfl (any_of HT_.out (by kernel_rfl)) (fun _ _ _ h => h) (Or.inl ⟨by rfl, ?_⟩) ?_ ?_
                  rotate_left
                  ·
                   intro w'
                   go_simp
                   with_reducible rfl
                  rotate_left
                  ·
                   simp only [Act.put, List.setIfInBounds_toArray, List.set_cons_zero, List.set_cons_succ, i64_w, i32_w]
                   rfl
                  refine done_ (done_of HT_.out (by kernel_rfl)) ?_
                  try go_wp2
                  go_roundg k2
                  case measure => have := HJ8.out; have := HK2.out; omega
                  case rel => exact ⟨(wrap64 (x13_2 + 1)), (by first | rfl | (simp; done) | (simp [*]; done)), H', ⟨by have := HJ8.out; have := HK2.out; omega⟩, ⟨by (with_reducible repeat (first | apply Kd.S_alloc | apply Kd.S_drewN | apply Kd.S_drew)); exact HO_9.out⟩, ⟨by (with_reducible repeat (first | apply Kd.S_alloc | apply Kd.S_drewN | apply Kd.S_drew)); exact HO_10.out⟩, ⟨by (with_reducible repeat (first | apply Kd.R_alloc | apply Kd.R_drewN | apply Kd.R_drew)); exact HO_588000.out⟩, ⟨by (with_reducible repeat (first | apply Kd.R_alloc | apply Kd.R_drewN | apply Kd.R_drew)); exact HO_588001.out⟩, ⟨by (with_reducible repeat (first | apply Kd.R_alloc | apply Kd.R_drewN | apply Kd.R_drew)); exact HO_589000.out⟩, ⟨by (with_reducible repeat (first | apply Kd.R_alloc | apply Kd.R_drewN | apply Kd.R_drew)); exact HO_589001.out⟩, ⟨by (with_reducible repeat (first | apply Kd.R_alloc | apply Kd.R_drewN | apply Kd.R_drew)); exact HO_597000.out⟩, ⟨by (with_reducible repeat (first | apply Kd.R_alloc | apply Kd.R_drewN | apply Kd.R_drew)); exact HO_597001.out⟩, ⟨by (with_reducible repeat (first | apply Kd.R_alloc | apply Kd.R_drewN | apply Kd.R_drew)); exact HO_605000.out⟩, ⟨by (with_reducible repeat (first | apply Kd.R_alloc | apply Kd.R_drewN | apply Kd.R_drew)); exact HO_605001.out⟩, ⟨by (with_reducible repeat (first | refine blk_drewN ?_ _ | refine blk_drew ?_ | refine blk_alloc ?_ _)); exact BK587.out⟩, ⟨by (with_reducible repeat (first | refine blk_drewN ?_ _ | refine blk_drew ?_ | refine blk_alloc ?_ _)); exact BK588.out⟩, ⟨by (with_reducible repeat (first | refine blk_drewN ?_ _ | refine blk_drew ?_ | refine blk_alloc ?_ _)); exact BK596.out⟩, ⟨by (with_reducible repeat (first | refine blk_drewN ?_ _ | refine blk_drew ?_ | refine blk_alloc ?_ _)); exact BK604.out⟩, ⟨by repeat (first | (with_reducible first | exact HB.out | apply below_alloc | apply pw_below_drewN | apply below_drew1 | refine below_set ?_ GE587.out | refine below_set ?_ GE588.out | refine below_set ?_ GE596.out | refine below_set ?_ GE604.out) | exact HB.out)⟩⟩
                 ·
                  replace c77 := Bool.eq_false_iff.mpr c77
                  subst c77
                  have H1 : (some false) = some r := by rw [if_neg (show ¬ (false = true) by decide)] at H; exact H
                  clear H
                  have H := H1
                  clear H1
                  obtain rfl := Option.some.inj H
                  exact absurd HT.out (by decide)
                ·
                 rw [if_neg c75] at H
                 exact absurd H (by simp)
               ·
                rw [if_neg c74] at H
                exact absurd H (by simp)
             ·
              rw [if_neg c71] at H
              exact absurd H (by simp)
            ·
             rw [if_neg c70] at H
             exact absurd H (by simp)
           ·
            rw [if_neg c69] at H
            have c69b0 : decide (x13_2 < (t607.length : Int)) = false := decide_eq_false c69
            clear c69
            replace H := Option.bind_eq_some_iff.mp H
            obtain ⟨t617, A810, H⟩ := H
            replace H : (some t617) = some r := H
            have A81 := Aside0.mk A810
            clear A810
            obtain rfl := Option.some.inj H
            have hnb82 := NB588_587.out
            have hnc82 := NB587_588.out
            have hnb83 := NB588_596.out
            have hnc83 := NB596_588.out
            have hnb84 := NB588_604.out
            have hnc84 := NB604_588.out
            have hcz85_0 : wr.cell? ⟨gb588, 0, none⟩ = some (.slice Ao17 t581.length co17) := (blk_cell BK588.out 0).trans rfl
            have hcz85_1 : wr.cell? ⟨gb588, 1, none⟩ = some (.slice Ao19 t584.length co19) := (blk_cell BK588.out 1).trans rfl
            have hfz85_0 := blk_frozen BK588.out 0
            have hfz85_1 := blk_frozen BK588.out 1
            have hnb86 := NB596_587.out
            have hnc86 := NB587_596.out
            have hnb87 := NB596_604.out
            have hnc87 := NB604_596.out
            have hcz88_0 : wr.cell? ⟨gb596, 0, none⟩ = some (.slice Ao22 t589.length co22) := (blk_cell BK596.out 0).trans rfl
            have hcz88_1 : wr.cell? ⟨gb596, 1, none⟩ = some (.slice Ao26 t592.length co26) := (blk_cell BK596.out 1).trans rfl
            have hfz88_0 := blk_frozen BK596.out 0
            have hfz88_1 := blk_frozen BK596.out 1
            go_wp2_with (first | ((with_reducible refine gate_callee (f := 18) rfl ?_); refine goesL_ (some 95) rfl rfl Try.func18 (by kernel_rfl) rfl #[.slice Ao17 t581.length co17, .slice Ao22 t589.length co22] rfl (by (try simp only [List.map_toArray, List.map_cons, List.map_nil]); first | done | rfl | (simp only [List.length_drop, List.length_take]; rfl)) ?_; (with_reducible refine (laws_sameInts.calls k2 _ _ t581 _ _ t589 t617 _ ?side1 ?side2 ?side3 ?side4 A81.out).mono ?_); (case side1 => exact cU (Kd.R_reads' HO_589000.out).2.2); (case side2 => exact (Kd.R_reads' HO_589000.out).2.1); (case side3 => exact cU (Kd.R_reads' HO_597000.out).2.2); (case side4 => exact (Kd.R_reads' HO_597000.out).2.1); rintro e w' ⟨rfl, ⟨nd, rfl⟩⟩; refine ⟨_, rfl, ?_⟩))
            go_ret
            exact ⟨by first | rfl | (simp [errW_none, errW_some] <;> rfl) | (simp [*, errW_none, errW_some] <;> rfl), by repeat (first | (with_reducible first | exact HB.out | apply below_alloc | apply pw_below_drewN | apply below_drew1 | refine below_set ?_ GE587.out | refine below_set ?_ GE588.out | refine below_set ?_ GE596.out | refine below_set ?_ GE604.out) | exact HB.out)⟩
       ·
        rw [if_neg c59] at H
        exact absurd H (by simp)
   ·
    rw [if_neg c8] at H
    have c8b0 : (t595 == 0) = false := beq_eq_false_iff_ne.mpr c8
    have c8b1 : (t595 != 0) = true := bne_iff_ne.mpr c8
    obtain rfl := Option.some.inj H
    go_enter Try.func4, Try.ntmps4
    go_wp2_with (first | ((with_reducible refine gate_callee (f := 12) rfl ?_); refine goesL_ (some 15) rfl rfl Try.func12 (by kernel_rfl) rfl #[.slice A0 l0.length c0] rfl (by (try simp only [List.map_toArray, List.map_cons, List.map_nil]); first | done | rfl | (simp only [List.length_drop, List.length_take]; rfl)) ?_; (with_reducible refine (laws_big.calls _ _ l0 false _ ?side1 ?side2 A2.out).mono ?_); (case side1 => exact cU HR0.out); (case side2 => exact HC0.out); rintro e w' ⟨rfl, ⟨nd, rfl⟩⟩; refine ⟨_, rfl, ?_⟩) | ((with_reducible refine gate_callee (f := 13) rfl ?_); refine goesL_ (some 18) rfl rfl Try.func13 (by kernel_rfl) rfl #[.slice A0 l0.length c0] rfl (by (try simp only [List.map_toArray, List.map_cons, List.map_nil]); first | done | rfl | (simp only [List.length_drop, List.length_take]; rfl)) ?_; (with_reducible refine (spec_DrawRotate.calls k _ _ l0 t575 t578 t581 t584 _ ?side1 ?side2 A4.out).mono ?_); (case side1 => exact cU HR0.out); (case side2 => exact HC0.out); rintro e w89 ⟨v576, v579, v582, v585, rfl, ho0, ho1, ho2, ho3, hb⟩; refine ⟨_, rfl, ?_⟩; have HO577 := Aside0.mk (Kd.R_lower ho0 (below_size (bU HB.out))); have HO580 := Aside0.mk (Kd.R_lower ho1 (below_size (bU HB.out))); have HO583 := Aside0.mk (Kd.R_lower ho2 (below_size (bU HB.out))); have HO586 := Aside0.mk (Kd.R_lower ho3 (below_size (bU HB.out))); replace HB := Aside0.mk (below_step (bU HB.out) hb); (try clear hb); (try clear hb2); (try clear hk); (try clear hi); (try clear ho0); (try clear ho1); (try clear ho2); (try clear ho3)) | ((with_reducible refine gate_dst (N := 3) rfl ?_); refine box_event ?hg (N := 3) ?hd (cs := #[.slice none 0 0, .slice none 0 0]) (t := 26) ?hr ?_; (case hd => rfl); (case hg => rfl); (case hr => first | (go_simp; done) | (go_simp; rfl)); intro gb587 hg w90 hbox hb; replace HO577 := Aside0.mk (Kd.R_below (RU HO577.out) hb); replace HO580 := Aside0.mk (Kd.R_below (RU HO580.out) hb); replace HO583 := Aside0.mk (Kd.R_below (RU HO583.out) hb); replace HO586 := Aside0.mk (Kd.R_below (RU HO586.out) hb); have BK587 := Aside0.mk (hbox); have GW587 := Aside0.mk ((by rw [hg]; exact (below_size (bU HB.out)) : w.heap.size ≤ gb587)); have GE587 := Aside0.mk ((by rw [hg]; exact (below_size (bU HB.out)) : w.heap.size ≤ gb587)); replace HB := Aside0.mk (below_step (bU HB.out) hb); clear hb hbox hg) | ((with_reducible refine gate_dst (N := 4) rfl ?_); refine box_event ?hg (N := 4) ?hd (cs := #[.slice none 0 0, .slice none 0 0]) (t := 26) ?hr ?_; (case hd => rfl); (case hg => rfl); (case hr => first | (go_simp; done) | (go_simp; rfl)); intro gb588 hg w91 hbox hb; replace HO577 := Aside0.mk (Kd.R_below (RU HO577.out) hb); replace HO580 := Aside0.mk (Kd.R_below (RU HO580.out) hb); replace HO583 := Aside0.mk (Kd.R_below (RU HO583.out) hb); replace HO586 := Aside0.mk (Kd.R_below (RU HO586.out) hb); have BK588 := Aside0.mk (hbox); have GW588 := Aside0.mk ((by rw [hg]; exact (below_size (bS1 HB.out GE587.out)) : w.heap.size ≤ gb588)); have GE588 := Aside0.mk ((by rw [hg]; exact (below_size (bS1 HB.out GE587.out)) : w.heap.size ≤ gb588)); replace HB := Aside0.mk (below_step (bS1 HB.out GE587.out) hb); have NB587_588 := Aside0.mk ((by rw [hg]; exact Nat.ne_of_lt (blk_lt (g := gb587) (o := .cells #[.slice none 0 0, .slice none 0 0] 26 (0, 0)) (kU BK587.out)) : gb587 ≠ gb588)); have NB588_587 := Aside0.mk ((by rw [hg]; exact Nat.ne_of_gt (blk_lt (g := gb587) (o := .cells #[.slice none 0 0, .slice none 0 0] 26 (0, 0)) (kU BK587.out)) : gb588 ≠ gb587)); replace BK587 := Aside0.mk (blk_below (g := gb587) (o := .cells #[.slice none 0 0, .slice none 0 0] 26 (0, 0)) (kU BK587.out) hb); clear hb hbox hg; obtain ⟨Ao92, co92, eo92⟩ := Kd.R_slice HO577.out; subst eo92; have hnb93 := NB587_588.out; have hnc93 := NB588_587.out; have hcz94_0 : w91.cell? ⟨gb587, 0, none⟩ = some (.slice none 0 0) := (blk_cell BK587.out 0).trans rfl; have hcz94_1 : w91.cell? ⟨gb587, 1, none⟩ = some (.slice none 0 0) := (blk_cell BK587.out 1).trans rfl; have hfz94_0 := blk_frozen BK587.out 0; have hfz94_1 := blk_frozen BK587.out 1; obtain ⟨Ao95, co95, eo95⟩ := Kd.R_slice HO580.out; subst eo95; obtain ⟨Ao96, co96, eo96⟩ := Kd.R_slice HO583.out; subst eo96; have hcz97_0 : w91.cell? ⟨gb588, 0, none⟩ = some (.slice none 0 0) := (blk_cell BK588.out 0).trans rfl; have hcz97_1 : w91.cell? ⟨gb588, 1, none⟩ = some (.slice none 0 0) := (blk_cell BK588.out 1).trans rfl; have hfz97_0 := blk_frozen BK588.out 0; have hfz97_1 := blk_frozen BK588.out 1; obtain ⟨Ao98, co98, eo98⟩ := Kd.R_slice HO586.out; subst eo98) | ((with_reducible refine gate_callee (f := 14) rfl ?_); refine goesL_ (some 24) rfl rfl Try.func14 (by kernel_rfl) rfl #[.agg #[.slice Ao92 t575.length co92, .slice Ao95 t578.length co95], .agg #[.slice Ao96 t581.length co96, .slice Ao98 t584.length co98]] rfl (by (try simp only [List.map_toArray, List.map_cons, List.map_nil]); first | done | rfl | (simp only [List.length_drop, List.length_take]; rfl)) ?_; (with_reducible refine (impl_Rotate.calls k _ _ t575 _ _ t578 _ _ t581 _ _ t584 t589 t592 t595 _ ?side1 ?side2 ?side3 ?side4 ?side5 ?side6 ?side7 ?side8 A5.out).mono ?_); (case side1 => refine (Kd.R_reads' (e := 3) (base := w.heap.size) (ok := fun k_ => (some k_ ≠ (.slice Ao95 t578.length co95 : Value).ownBlock ∧ (some k_ ≠ (.slice Ao96 t581.length co96 : Value).ownBlock ∧ some k_ ≠ (.slice Ao98 t584.length co98 : Value).ownBlock))) (n := t575.length) (c := co92) ?_).2.2; exact (by (with_reducible repeat (first | apply Kd.R_alloc | apply Kd.R_drewN | apply Kd.R_drew)); exact (Kd.R_mono (Kd.R_mono (Kd.R_far (p := ⟨gb588, 1, none⟩) (Kd.R_far (p := ⟨gb588, 0, none⟩) (Kd.R_far (p := ⟨gb587, 1, none⟩) (Kd.R_far (p := ⟨gb587, 0, none⟩) (Kd.R_types (Kd.R_types HO577.out BK587.out (by decide)) BK588.out (by decide)) (fun _ hk => hk.1.2) (.slice Ao92 t575.length co92)) (fun _ hk => hk.1.2) (.slice Ao95 t578.length co95)) (fun _ hk => hk.2) (.slice Ao96 t581.length co96)) (fun _ hk => hk.2) (.slice Ao98 t584.length co98)) (fun _ h_ => h_.1)) (fun _ h_ => h_.1)))); (case side2 => exact (Kd.R_reads' HO577.out).2.1); (case side3 => refine (Kd.R_reads' (e := 3) (base := w.heap.size) (ok := fun k_ => (some k_ ≠ (.slice Ao92 t575.length co92 : Value).ownBlock ∧ (some k_ ≠ (.slice Ao96 t581.length co96 : Value).ownBlock ∧ some k_ ≠ (.slice Ao98 t584.length co98 : Value).ownBlock))) (n := t578.length) (c := co95) ?_).2.2; exact (by (with_reducible repeat (first | apply Kd.R_alloc | apply Kd.R_drewN | apply Kd.R_drew)); exact (Kd.R_mono (Kd.R_mono (Kd.R_far (p := ⟨gb588, 1, none⟩) (Kd.R_far (p := ⟨gb588, 0, none⟩) (Kd.R_far (p := ⟨gb587, 1, none⟩) (Kd.R_far (p := ⟨gb587, 0, none⟩) (Kd.R_types (Kd.R_types HO580.out BK587.out (by decide)) BK588.out (by decide)) (fun _ hk => hk.1.2) (.slice Ao92 t575.length co92)) (fun _ hk => hk.1.2) (.slice Ao95 t578.length co95)) (fun _ hk => hk.2) (.slice Ao96 t581.length co96)) (fun _ hk => hk.2) (.slice Ao98 t584.length co98)) (fun _ h_ => h_.1)) (fun _ h_ => h_.1)))); (case side4 => exact (Kd.R_reads' HO580.out).2.1); (case side5 => refine (Kd.R_reads' (e := 3) (base := w.heap.size) (ok := fun k_ => (some k_ ≠ (.slice Ao92 t575.length co92 : Value).ownBlock ∧ (some k_ ≠ (.slice Ao95 t578.length co95 : Value).ownBlock ∧ some k_ ≠ (.slice Ao98 t584.length co98 : Value).ownBlock))) (n := t581.length) (c := co96) ?_).2.2; exact (by (with_reducible repeat (first | apply Kd.R_alloc | apply Kd.R_drewN | apply Kd.R_drew)); exact (Kd.R_mono (Kd.R_mono (Kd.R_far (p := ⟨gb588, 1, none⟩) (Kd.R_far (p := ⟨gb588, 0, none⟩) (Kd.R_far (p := ⟨gb587, 1, none⟩) (Kd.R_far (p := ⟨gb587, 0, none⟩) (Kd.R_types (Kd.R_types HO583.out BK587.out (by decide)) BK588.out (by decide)) (fun _ hk => hk.1.2) (.slice Ao92 t575.length co92)) (fun _ hk => hk.1.2) (.slice Ao95 t578.length co95)) (fun _ hk => hk.2) (.slice Ao96 t581.length co96)) (fun _ hk => hk.2) (.slice Ao98 t584.length co98)) (fun _ h_ => h_.1)) (fun _ h_ => h_.1)))); (case side6 => exact (Kd.R_reads' HO583.out).2.1); (case side7 => refine (Kd.R_reads' (e := 3) (base := w.heap.size) (ok := fun k_ => (some k_ ≠ (.slice Ao92 t575.length co92 : Value).ownBlock ∧ (some k_ ≠ (.slice Ao95 t578.length co95 : Value).ownBlock ∧ some k_ ≠ (.slice Ao96 t581.length co96 : Value).ownBlock))) (n := t584.length) (c := co98) ?_).2.2; exact (by (with_reducible repeat (first | apply Kd.R_alloc | apply Kd.R_drewN | apply Kd.R_drew)); exact (Kd.R_mono (Kd.R_mono (Kd.R_far (p := ⟨gb588, 1, none⟩) (Kd.R_far (p := ⟨gb588, 0, none⟩) (Kd.R_far (p := ⟨gb587, 1, none⟩) (Kd.R_far (p := ⟨gb587, 0, none⟩) (Kd.R_types (Kd.R_types HO586.out BK587.out (by decide)) BK588.out (by decide)) (fun _ hk => hk.1.2) (.slice Ao92 t575.length co92)) (fun _ hk => hk.1.2) (.slice Ao95 t578.length co95)) (fun _ hk => hk.2) (.slice Ao96 t581.length co96)) (fun _ hk => hk.2) (.slice Ao98 t584.length co98)) (fun _ h_ => h_.1)) (fun _ h_ => h_.1)))); (case side8 => exact (Kd.R_reads' HO586.out).2.1); rintro e w99 ⟨v590, v593, rfl, ho0, ho1, hb⟩; refine ⟨_, rfl, ?_⟩; have HO591 := Aside0.mk (Kd.R_lower (Kd.R_new' (Kd.R_new' (Kd.R_new' (Kd.R_new' ho0 (Kd.R_lt (by (with_reducible repeat (first | apply Kd.R_alloc | apply Kd.R_drewN | apply Kd.R_drew)); exact (Kd.R_mono (Kd.R_mono (Kd.R_far (p := ⟨gb588, 1, none⟩) (Kd.R_far (p := ⟨gb588, 0, none⟩) (Kd.R_far (p := ⟨gb587, 1, none⟩) (Kd.R_far (p := ⟨gb587, 0, none⟩) (Kd.R_types (Kd.R_types HO577.out BK587.out (by decide)) BK588.out (by decide)) (fun _ hk => hk.1.2) (.slice Ao92 t575.length co92)) (fun _ hk => hk.1.2) (.slice Ao95 t578.length co95)) (fun _ hk => hk.2) (.slice Ao96 t581.length co96)) (fun _ hk => hk.2) (.slice Ao98 t584.length co98)) (fun _ h_ => h_.1)) (fun _ h_ => h_.1))))) (Kd.R_lt (by (with_reducible repeat (first | apply Kd.R_alloc | apply Kd.R_drewN | apply Kd.R_drew)); exact (Kd.R_mono (Kd.R_mono (Kd.R_far (p := ⟨gb588, 1, none⟩) (Kd.R_far (p := ⟨gb588, 0, none⟩) (Kd.R_far (p := ⟨gb587, 1, none⟩) (Kd.R_far (p := ⟨gb587, 0, none⟩) (Kd.R_types (Kd.R_types HO580.out BK587.out (by decide)) BK588.out (by decide)) (fun _ hk => hk.1.2) (.slice Ao92 t575.length co92)) (fun _ hk => hk.1.2) (.slice Ao95 t578.length co95)) (fun _ hk => hk.2) (.slice Ao96 t581.length co96)) (fun _ hk => hk.2) (.slice Ao98 t584.length co98)) (fun _ h_ => h_.1)) (fun _ h_ => h_.1))))) (Kd.R_lt (by (with_reducible repeat (first | apply Kd.R_alloc | apply Kd.R_drewN | apply Kd.R_drew)); exact (Kd.R_mono (Kd.R_mono (Kd.R_far (p := ⟨gb588, 1, none⟩) (Kd.R_far (p := ⟨gb588, 0, none⟩) (Kd.R_far (p := ⟨gb587, 1, none⟩) (Kd.R_far (p := ⟨gb587, 0, none⟩) (Kd.R_types (Kd.R_types HO583.out BK587.out (by decide)) BK588.out (by decide)) (fun _ hk => hk.1.2) (.slice Ao92 t575.length co92)) (fun _ hk => hk.1.2) (.slice Ao95 t578.length co95)) (fun _ hk => hk.2) (.slice Ao96 t581.length co96)) (fun _ hk => hk.2) (.slice Ao98 t584.length co98)) (fun _ h_ => h_.1)) (fun _ h_ => h_.1))))) (Kd.R_lt (by (with_reducible repeat (first | apply Kd.R_alloc | apply Kd.R_drewN | apply Kd.R_drew)); exact (Kd.R_mono (Kd.R_mono (Kd.R_far (p := ⟨gb588, 1, none⟩) (Kd.R_far (p := ⟨gb588, 0, none⟩) (Kd.R_far (p := ⟨gb587, 1, none⟩) (Kd.R_far (p := ⟨gb587, 0, none⟩) (Kd.R_types (Kd.R_types HO586.out BK587.out (by decide)) BK588.out (by decide)) (fun _ hk => hk.1.2) (.slice Ao92 t575.length co92)) (fun _ hk => hk.1.2) (.slice Ao95 t578.length co95)) (fun _ hk => hk.2) (.slice Ao96 t581.length co96)) (fun _ hk => hk.2) (.slice Ao98 t584.length co98)) (fun _ h_ => h_.1)) (fun _ h_ => h_.1))))) (below_size (bS2 HB.out GE587.out GE588.out))); have HO594 := Aside0.mk (Kd.R_lower (Kd.R_new' (Kd.R_new' (Kd.R_new' (Kd.R_new' ho1 (Kd.R_lt (by (with_reducible repeat (first | apply Kd.R_alloc | apply Kd.R_drewN | apply Kd.R_drew)); exact (Kd.R_mono (Kd.R_mono (Kd.R_far (p := ⟨gb588, 1, none⟩) (Kd.R_far (p := ⟨gb588, 0, none⟩) (Kd.R_far (p := ⟨gb587, 1, none⟩) (Kd.R_far (p := ⟨gb587, 0, none⟩) (Kd.R_types (Kd.R_types HO577.out BK587.out (by decide)) BK588.out (by decide)) (fun _ hk => hk.1.2) (.slice Ao92 t575.length co92)) (fun _ hk => hk.1.2) (.slice Ao95 t578.length co95)) (fun _ hk => hk.2) (.slice Ao96 t581.length co96)) (fun _ hk => hk.2) (.slice Ao98 t584.length co98)) (fun _ h_ => h_.1)) (fun _ h_ => h_.1))))) (Kd.R_lt (by (with_reducible repeat (first | apply Kd.R_alloc | apply Kd.R_drewN | apply Kd.R_drew)); exact (Kd.R_mono (Kd.R_mono (Kd.R_far (p := ⟨gb588, 1, none⟩) (Kd.R_far (p := ⟨gb588, 0, none⟩) (Kd.R_far (p := ⟨gb587, 1, none⟩) (Kd.R_far (p := ⟨gb587, 0, none⟩) (Kd.R_types (Kd.R_types HO580.out BK587.out (by decide)) BK588.out (by decide)) (fun _ hk => hk.1.2) (.slice Ao92 t575.length co92)) (fun _ hk => hk.1.2) (.slice Ao95 t578.length co95)) (fun _ hk => hk.2) (.slice Ao96 t581.length co96)) (fun _ hk => hk.2) (.slice Ao98 t584.length co98)) (fun _ h_ => h_.1)) (fun _ h_ => h_.1))))) (Kd.R_lt (by (with_reducible repeat (first | apply Kd.R_alloc | apply Kd.R_drewN | apply Kd.R_drew)); exact (Kd.R_mono (Kd.R_mono (Kd.R_far (p := ⟨gb588, 1, none⟩) (Kd.R_far (p := ⟨gb588, 0, none⟩) (Kd.R_far (p := ⟨gb587, 1, none⟩) (Kd.R_far (p := ⟨gb587, 0, none⟩) (Kd.R_types (Kd.R_types HO583.out BK587.out (by decide)) BK588.out (by decide)) (fun _ hk => hk.1.2) (.slice Ao92 t575.length co92)) (fun _ hk => hk.1.2) (.slice Ao95 t578.length co95)) (fun _ hk => hk.2) (.slice Ao96 t581.length co96)) (fun _ hk => hk.2) (.slice Ao98 t584.length co98)) (fun _ h_ => h_.1)) (fun _ h_ => h_.1))))) (Kd.R_lt (by (with_reducible repeat (first | apply Kd.R_alloc | apply Kd.R_drewN | apply Kd.R_drew)); exact (Kd.R_mono (Kd.R_mono (Kd.R_far (p := ⟨gb588, 1, none⟩) (Kd.R_far (p := ⟨gb588, 0, none⟩) (Kd.R_far (p := ⟨gb587, 1, none⟩) (Kd.R_far (p := ⟨gb587, 0, none⟩) (Kd.R_types (Kd.R_types HO586.out BK587.out (by decide)) BK588.out (by decide)) (fun _ hk => hk.1.2) (.slice Ao92 t575.length co92)) (fun _ hk => hk.1.2) (.slice Ao95 t578.length co95)) (fun _ hk => hk.2) (.slice Ao96 t581.length co96)) (fun _ hk => hk.2) (.slice Ao98 t584.length co98)) (fun _ h_ => h_.1)) (fun _ h_ => h_.1))))) (below_size (bS2 HB.out GE587.out GE588.out))); replace HO577 := Aside0.mk (Kd.R_mono (Kd.R_told (Kd.R_told (Kd.R_old (by (with_reducible repeat (first | apply Kd.R_alloc | apply Kd.R_drewN | apply Kd.R_drew)); exact (Kd.R_mono (Kd.R_mono (Kd.R_far (p := ⟨gb588, 1, none⟩) (Kd.R_far (p := ⟨gb588, 0, none⟩) (Kd.R_far (p := ⟨gb587, 1, none⟩) (Kd.R_far (p := ⟨gb587, 0, none⟩) (Kd.R_types (Kd.R_types HO577.out BK587.out (by decide)) BK588.out (by decide)) (fun _ hk => hk.1.2) (.slice Ao92 t575.length co92)) (fun _ hk => hk.1.2) (.slice Ao95 t578.length co95)) (fun _ hk => hk.2) (.slice Ao96 t581.length co96)) (fun _ hk => hk.2) (.slice Ao98 t584.length co98)) (fun _ h_ => h_.1)) (fun _ h_ => h_.1))) hb) (Kd.R_base ho0)) (Kd.R_base ho1)) (fun _ h_ => h_.1)); replace HO580 := Aside0.mk (Kd.R_mono (Kd.R_told (Kd.R_told (Kd.R_old (by (with_reducible repeat (first | apply Kd.R_alloc | apply Kd.R_drewN | apply Kd.R_drew)); exact (Kd.R_mono (Kd.R_mono (Kd.R_far (p := ⟨gb588, 1, none⟩) (Kd.R_far (p := ⟨gb588, 0, none⟩) (Kd.R_far (p := ⟨gb587, 1, none⟩) (Kd.R_far (p := ⟨gb587, 0, none⟩) (Kd.R_types (Kd.R_types HO580.out BK587.out (by decide)) BK588.out (by decide)) (fun _ hk => hk.1.2) (.slice Ao92 t575.length co92)) (fun _ hk => hk.1.2) (.slice Ao95 t578.length co95)) (fun _ hk => hk.2) (.slice Ao96 t581.length co96)) (fun _ hk => hk.2) (.slice Ao98 t584.length co98)) (fun _ h_ => h_.1)) (fun _ h_ => h_.1))) hb) (Kd.R_base ho0)) (Kd.R_base ho1)) (fun _ h_ => h_.1)); replace HO583 := Aside0.mk (Kd.R_mono (Kd.R_told (Kd.R_told (Kd.R_old (by (with_reducible repeat (first | apply Kd.R_alloc | apply Kd.R_drewN | apply Kd.R_drew)); exact (Kd.R_mono (Kd.R_mono (Kd.R_far (p := ⟨gb588, 1, none⟩) (Kd.R_far (p := ⟨gb588, 0, none⟩) (Kd.R_far (p := ⟨gb587, 1, none⟩) (Kd.R_far (p := ⟨gb587, 0, none⟩) (Kd.R_types (Kd.R_types HO583.out BK587.out (by decide)) BK588.out (by decide)) (fun _ hk => hk.1.2) (.slice Ao92 t575.length co92)) (fun _ hk => hk.1.2) (.slice Ao95 t578.length co95)) (fun _ hk => hk.2) (.slice Ao96 t581.length co96)) (fun _ hk => hk.2) (.slice Ao98 t584.length co98)) (fun _ h_ => h_.1)) (fun _ h_ => h_.1))) hb) (Kd.R_base ho0)) (Kd.R_base ho1)) (fun _ h_ => h_.1)); replace HO586 := Aside0.mk (Kd.R_mono (Kd.R_told (Kd.R_told (Kd.R_old (by (with_reducible repeat (first | apply Kd.R_alloc | apply Kd.R_drewN | apply Kd.R_drew)); exact (Kd.R_mono (Kd.R_mono (Kd.R_far (p := ⟨gb588, 1, none⟩) (Kd.R_far (p := ⟨gb588, 0, none⟩) (Kd.R_far (p := ⟨gb587, 1, none⟩) (Kd.R_far (p := ⟨gb587, 0, none⟩) (Kd.R_types (Kd.R_types HO586.out BK587.out (by decide)) BK588.out (by decide)) (fun _ hk => hk.1.2) (.slice Ao92 t575.length co92)) (fun _ hk => hk.1.2) (.slice Ao95 t578.length co95)) (fun _ hk => hk.2) (.slice Ao96 t581.length co96)) (fun _ hk => hk.2) (.slice Ao98 t584.length co98)) (fun _ h_ => h_.1)) (fun _ h_ => h_.1))) hb) (Kd.R_base ho0)) (Kd.R_base ho1)) (fun _ h_ => h_.1)); replace BK587 := Aside0.mk (blk_below (g := gb587) (o := .cells #[.slice Ao92 t575.length co92, .slice Ao95 t578.length co95] 26 (0, 0)) (by (with_reducible repeat (first | refine blk_drewN ?_ _ | refine blk_drew ?_ | refine blk_alloc ?_ _)); refine blk_far ?_ NB587_588.out _; (with_reducible repeat (first | refine blk_drewN ?_ _ | refine blk_drew ?_ | refine blk_alloc ?_ _)); refine blk_far ?_ NB587_588.out _; (with_reducible repeat (first | refine blk_drewN ?_ _ | refine blk_drew ?_ | refine blk_alloc ?_ _)); refine blk_put (cs := #[.slice Ao92 t575.length co92, .slice none 0 0]) ?_ 1 _ rfl; (with_reducible repeat (first | refine blk_drewN ?_ _ | refine blk_drew ?_ | refine blk_alloc ?_ _)); refine blk_put (cs := #[.slice none 0 0, .slice none 0 0]) ?_ 0 _ rfl; (with_reducible repeat (first | refine blk_drewN ?_ _ | refine blk_drew ?_ | refine blk_alloc ?_ _)); exact BK587.out) hb); replace BK588 := Aside0.mk (blk_below (g := gb588) (o := .cells #[.slice Ao96 t581.length co96, .slice Ao98 t584.length co98] 26 (0, 0)) (by (with_reducible repeat (first | refine blk_drewN ?_ _ | refine blk_drew ?_ | refine blk_alloc ?_ _)); refine blk_put (cs := #[.slice Ao96 t581.length co96, .slice none 0 0]) ?_ 1 _ rfl; (with_reducible repeat (first | refine blk_drewN ?_ _ | refine blk_drew ?_ | refine blk_alloc ?_ _)); refine blk_put (cs := #[.slice none 0 0, .slice none 0 0]) ?_ 0 _ rfl; (with_reducible repeat (first | refine blk_drewN ?_ _ | refine blk_drew ?_ | refine blk_alloc ?_ _)); refine blk_far ?_ NB588_587.out _; (with_reducible repeat (first | refine blk_drewN ?_ _ | refine blk_drew ?_ | refine blk_alloc ?_ _)); refine blk_far ?_ NB588_587.out _; (with_reducible repeat (first | refine blk_drewN ?_ _ | refine blk_drew ?_ | refine blk_alloc ?_ _)); exact BK588.out) hb); replace HB := Aside0.mk (below_step (bS2 HB.out GE587.out GE588.out) hb); (try clear hb); (try clear hb2); (try clear hk); (try clear hi); (try clear ho0); (try clear ho1)) | ((with_reducible refine gate_dst (N := 5) rfl ?_); refine box_event ?hg (N := 5) ?hd (cs := #[.slice none 0 0, .slice none 0 0]) (t := 26) ?hr ?_; (case hd => rfl); (case hg => rfl); (case hr => first | (go_simp; done) | (go_simp; rfl)); intro gb596 hg w100 hbox hb; replace HO577 := Aside0.mk (Kd.R_below (RU HO577.out) hb); replace HO580 := Aside0.mk (Kd.R_below (RU HO580.out) hb); replace HO583 := Aside0.mk (Kd.R_below (RU HO583.out) hb); replace HO586 := Aside0.mk (Kd.R_below (RU HO586.out) hb); replace HO591 := Aside0.mk (Kd.R_below (RU HO591.out) hb); replace HO594 := Aside0.mk (Kd.R_below (RU HO594.out) hb); have BK596 := Aside0.mk (hbox); have GW596 := Aside0.mk ((by rw [hg]; exact (below_size (bS2 HB.out GE587.out GE588.out)) : w.heap.size ≤ gb596)); have GE596 := Aside0.mk ((by rw [hg]; exact (below_size (bS2 HB.out GE587.out GE588.out)) : w.heap.size ≤ gb596)); replace HB := Aside0.mk (below_step (bS2 HB.out GE587.out GE588.out) hb); have NB587_596 := Aside0.mk ((by rw [hg]; exact Nat.ne_of_lt (blk_lt (g := gb587) (o := .cells #[.slice Ao92 t575.length co92, .slice Ao95 t578.length co95] 26 (0, 0)) (kU BK587.out)) : gb587 ≠ gb596)); have NB596_587 := Aside0.mk ((by rw [hg]; exact Nat.ne_of_gt (blk_lt (g := gb587) (o := .cells #[.slice Ao92 t575.length co92, .slice Ao95 t578.length co95] 26 (0, 0)) (kU BK587.out)) : gb596 ≠ gb587)); replace BK587 := Aside0.mk (blk_below (g := gb587) (o := .cells #[.slice Ao92 t575.length co92, .slice Ao95 t578.length co95] 26 (0, 0)) (kU BK587.out) hb); have NB588_596 := Aside0.mk ((by rw [hg]; exact Nat.ne_of_lt (blk_lt (g := gb588) (o := .cells #[.slice Ao96 t581.length co96, .slice Ao98 t584.length co98] 26 (0, 0)) (kU BK588.out)) : gb588 ≠ gb596)); have NB596_588 := Aside0.mk ((by rw [hg]; exact Nat.ne_of_gt (blk_lt (g := gb588) (o := .cells #[.slice Ao96 t581.length co96, .slice Ao98 t584.length co98] 26 (0, 0)) (kU BK588.out)) : gb596 ≠ gb588)); replace BK588 := Aside0.mk (blk_below (g := gb588) (o := .cells #[.slice Ao96 t581.length co96, .slice Ao98 t584.length co98] 26 (0, 0)) (kU BK588.out) hb); clear hb hbox hg; obtain ⟨Ao101, co101, eo101⟩ := Kd.R_slice HO591.out; subst eo101; have hnb102 := NB596_587.out; have hnc102 := NB587_596.out; have hnb103 := NB596_588.out; have hnc103 := NB588_596.out; have hcz104_0 : w100.cell? ⟨gb596, 0, none⟩ = some (.slice none 0 0) := (blk_cell BK596.out 0).trans rfl; have hcz104_1 : w100.cell? ⟨gb596, 1, none⟩ = some (.slice none 0 0) := (blk_cell BK596.out 1).trans rfl; have hfz104_0 := blk_frozen BK596.out 0; have hfz104_1 := blk_frozen BK596.out 1; obtain ⟨Ao105, co105, eo105⟩ := Kd.R_slice HO594.out; subst eo105; have hcz106_0 : w100.cell? ⟨gb587, 0, none⟩ = some (.slice Ao92 t575.length co92) := (blk_cell BK587.out 0).trans rfl; have hcz106_1 : w100.cell? ⟨gb587, 1, none⟩ = some (.slice Ao95 t578.length co95) := (blk_cell BK587.out 1).trans rfl; have hfz106_0 := blk_frozen BK587.out 0; have hfz106_1 := blk_frozen BK587.out 1; have hcz107_0 : w100.cell? ⟨gb588, 0, none⟩ = some (.slice Ao96 t581.length co96) := (blk_cell BK588.out 0).trans rfl; have hcz107_1 : w100.cell? ⟨gb588, 1, none⟩ = some (.slice Ao98 t584.length co98) := (blk_cell BK588.out 1).trans rfl; have hfz107_0 := blk_frozen BK588.out 0; have hfz107_1 := blk_frozen BK588.out 1) | ((with_reducible refine gate_callee (f := 15) rfl ?_); refine goesL_ (some 30) rfl rfl Try.func15 (by kernel_rfl) rfl #[.agg #[.slice Ao92 t575.length co92, .slice Ao95 t578.length co95], .agg #[.slice Ao96 t581.length co96, .slice Ao98 t584.length co98]] rfl (by (try simp only [List.map_toArray, List.map_cons, List.map_nil]); first | done | rfl | (simp only [List.length_drop, List.length_take]; rfl)) ?_; (with_reducible refine (spec_Rotate.calls k _ _ t575 _ _ t578 _ _ t581 _ _ t584 t597 t600 t603 _ ?side1 ?side2 ?side3 ?side4 ?side5 ?side6 ?side7 ?side8 A6.out).mono ?_); (case side1 => refine (Kd.R_reads' (e := 3) (base := w.heap.size) (ok := fun k_ => (((some k_ ≠ (.slice Ao95 t578.length co95 : Value).ownBlock ∧ (some k_ ≠ (.slice Ao96 t581.length co96 : Value).ownBlock ∧ some k_ ≠ (.slice Ao98 t584.length co98 : Value).ownBlock)) ∧ some k_ ≠ (.slice Ao101 t589.length co101 : Value).ownBlock) ∧ some k_ ≠ (.slice Ao105 t592.length co105 : Value).ownBlock)) (n := t575.length) (c := co92) ?_).2.2; exact (by (with_reducible repeat (first | apply Kd.R_alloc | apply Kd.R_drewN | apply Kd.R_drew)); exact (far2 HO577.out BK596.out))); (case side2 => exact (Kd.R_reads' HO577.out).2.1); (case side3 => refine (Kd.R_reads' (e := 3) (base := w.heap.size) (ok := fun k_ => (((some k_ ≠ (.slice Ao92 t575.length co92 : Value).ownBlock ∧ (some k_ ≠ (.slice Ao96 t581.length co96 : Value).ownBlock ∧ some k_ ≠ (.slice Ao98 t584.length co98 : Value).ownBlock)) ∧ some k_ ≠ (.slice Ao101 t589.length co101 : Value).ownBlock) ∧ some k_ ≠ (.slice Ao105 t592.length co105 : Value).ownBlock)) (n := t578.length) (c := co95) ?_).2.2; exact (by (with_reducible repeat (first | apply Kd.R_alloc | apply Kd.R_drewN | apply Kd.R_drew)); exact (far2 HO580.out BK596.out))); (case side4 => exact (Kd.R_reads' HO580.out).2.1); (case side5 => refine (Kd.R_reads' (e := 3) (base := w.heap.size) (ok := fun k_ => (((some k_ ≠ (.slice Ao92 t575.length co92 : Value).ownBlock ∧ (some k_ ≠ (.slice Ao95 t578.length co95 : Value).ownBlock ∧ some k_ ≠ (.slice Ao98 t584.length co98 : Value).ownBlock)) ∧ some k_ ≠ (.slice Ao101 t589.length co101 : Value).ownBlock) ∧ some k_ ≠ (.slice Ao105 t592.length co105 : Value).ownBlock)) (n := t581.length) (c := co96) ?_).2.2; exact (by (with_reducible repeat (first | apply Kd.R_alloc | apply Kd.R_drewN | apply Kd.R_drew)); exact (far2 HO583.out BK596.out))); (case side6 => exact (Kd.R_reads' HO583.out).2.1); (case side7 => refine (Kd.R_reads' (e := 3) (base := w.heap.size) (ok := fun k_ => (((some k_ ≠ (.slice Ao92 t575.length co92 : Value).ownBlock ∧ (some k_ ≠ (.slice Ao95 t578.length co95 : Value).ownBlock ∧ some k_ ≠ (.slice Ao96 t581.length co96 : Value).ownBlock)) ∧ some k_ ≠ (.slice Ao101 t589.length co101 : Value).ownBlock) ∧ some k_ ≠ (.slice Ao105 t592.length co105 : Value).ownBlock)) (n := t584.length) (c := co98) ?_).2.2; exact (by (with_reducible repeat (first | apply Kd.R_alloc | apply Kd.R_drewN | apply Kd.R_drew)); exact (far2 HO586.out BK596.out))); (case side8 => exact (Kd.R_reads' HO586.out).2.1); rintro e w108 ⟨v598, v601, rfl, ho0, ho1, hb⟩; refine ⟨_, rfl, ?_⟩; have HO599 := Aside0.mk (Kd.R_lower (Kd.R_new' (Kd.R_new' (Kd.R_new' (Kd.R_new' (Kd.R_new' (Kd.R_new' ho0 (Kd.R_lt (by (with_reducible repeat (first | apply Kd.R_alloc | apply Kd.R_drewN | apply Kd.R_drew)); exact (far2 HO577.out BK596.out)))) (Kd.R_lt (by (with_reducible repeat (first | apply Kd.R_alloc | apply Kd.R_drewN | apply Kd.R_drew)); exact (far2 HO580.out BK596.out)))) (Kd.R_lt (by (with_reducible repeat (first | apply Kd.R_alloc | apply Kd.R_drewN | apply Kd.R_drew)); exact (far2 HO583.out BK596.out)))) (Kd.R_lt (by (with_reducible repeat (first | apply Kd.R_alloc | apply Kd.R_drewN | apply Kd.R_drew)); exact (far2 HO586.out BK596.out)))) (Kd.R_lt (by (with_reducible repeat (first | apply Kd.R_alloc | apply Kd.R_drewN | apply Kd.R_drew)); exact (far2 HO591.out BK596.out)))) (Kd.R_lt (by (with_reducible repeat (first | apply Kd.R_alloc | apply Kd.R_drewN | apply Kd.R_drew)); exact (far2 HO594.out BK596.out)))) (below_size (bS3 HB.out GE587.out GE588.out GE596.out))); have HO602 := Aside0.mk (Kd.R_lower (Kd.R_new' (Kd.R_new' (Kd.R_new' (Kd.R_new' (Kd.R_new' (Kd.R_new' ho1 (Kd.R_lt (by (with_reducible repeat (first | apply Kd.R_alloc | apply Kd.R_drewN | apply Kd.R_drew)); exact (far2 HO577.out BK596.out)))) (Kd.R_lt (by (with_reducible repeat (first | apply Kd.R_alloc | apply Kd.R_drewN | apply Kd.R_drew)); exact (far2 HO580.out BK596.out)))) (Kd.R_lt (by (with_reducible repeat (first | apply Kd.R_alloc | apply Kd.R_drewN | apply Kd.R_drew)); exact (far2 HO583.out BK596.out)))) (Kd.R_lt (by (with_reducible repeat (first | apply Kd.R_alloc | apply Kd.R_drewN | apply Kd.R_drew)); exact (far2 HO586.out BK596.out)))) (Kd.R_lt (by (with_reducible repeat (first | apply Kd.R_alloc | apply Kd.R_drewN | apply Kd.R_drew)); exact (far2 HO591.out BK596.out)))) (Kd.R_lt (by (with_reducible repeat (first | apply Kd.R_alloc | apply Kd.R_drewN | apply Kd.R_drew)); exact (far2 HO594.out BK596.out)))) (below_size (bS3 HB.out GE587.out GE588.out GE596.out))); replace HO577 := Aside0.mk (Kd.R_mono (Kd.R_told (Kd.R_told (Kd.R_old (by (with_reducible repeat (first | apply Kd.R_alloc | apply Kd.R_drewN | apply Kd.R_drew)); exact (far2 HO577.out BK596.out)) hb) (Kd.R_base ho0)) (Kd.R_base ho1)) (fun _ h_ => h_.1)); replace HO580 := Aside0.mk (Kd.R_mono (Kd.R_told (Kd.R_told (Kd.R_old (by (with_reducible repeat (first | apply Kd.R_alloc | apply Kd.R_drewN | apply Kd.R_drew)); exact (far2 HO580.out BK596.out)) hb) (Kd.R_base ho0)) (Kd.R_base ho1)) (fun _ h_ => h_.1)); replace HO583 := Aside0.mk (Kd.R_mono (Kd.R_told (Kd.R_told (Kd.R_old (by (with_reducible repeat (first | apply Kd.R_alloc | apply Kd.R_drewN | apply Kd.R_drew)); exact (far2 HO583.out BK596.out)) hb) (Kd.R_base ho0)) (Kd.R_base ho1)) (fun _ h_ => h_.1)); replace HO586 := Aside0.mk (Kd.R_mono (Kd.R_told (Kd.R_told (Kd.R_old (by (with_reducible repeat (first | apply Kd.R_alloc | apply Kd.R_drewN | apply Kd.R_drew)); exact (far2 HO586.out BK596.out)) hb) (Kd.R_base ho0)) (Kd.R_base ho1)) (fun _ h_ => h_.1)); replace HO591 := Aside0.mk (Kd.R_mono (Kd.R_told (Kd.R_told (Kd.R_old (by (with_reducible repeat (first | apply Kd.R_alloc | apply Kd.R_drewN | apply Kd.R_drew)); exact (far2 HO591.out BK596.out)) hb) (Kd.R_base ho0)) (Kd.R_base ho1)) (fun _ h_ => h_.1)); replace HO594 := Aside0.mk (Kd.R_mono (Kd.R_told (Kd.R_told (Kd.R_old (by (with_reducible repeat (first | apply Kd.R_alloc | apply Kd.R_drewN | apply Kd.R_drew)); exact (far2 HO594.out BK596.out)) hb) (Kd.R_base ho0)) (Kd.R_base ho1)) (fun _ h_ => h_.1)); replace BK587 := Aside0.mk (blk_below (g := gb587) (o := .cells #[.slice Ao92 t575.length co92, .slice Ao95 t578.length co95] 26 (0, 0)) (by (with_reducible repeat (first | refine blk_drewN ?_ _ | refine blk_drew ?_ | refine blk_alloc ?_ _)); refine blk_far ?_ NB587_596.out _; (with_reducible repeat (first | refine blk_drewN ?_ _ | refine blk_drew ?_ | refine blk_alloc ?_ _)); refine blk_far ?_ NB587_596.out _; (with_reducible repeat (first | refine blk_drewN ?_ _ | refine blk_drew ?_ | refine blk_alloc ?_ _)); exact BK587.out) hb); replace BK588 := Aside0.mk (blk_below (g := gb588) (o := .cells #[.slice Ao96 t581.length co96, .slice Ao98 t584.length co98] 26 (0, 0)) (by (with_reducible repeat (first | refine blk_drewN ?_ _ | refine blk_drew ?_ | refine blk_alloc ?_ _)); refine blk_far ?_ NB588_596.out _; (with_reducible repeat (first | refine blk_drewN ?_ _ | refine blk_drew ?_ | refine blk_alloc ?_ _)); refine blk_far ?_ NB588_596.out _; (with_reducible repeat (first | refine blk_drewN ?_ _ | refine blk_drew ?_ | refine blk_alloc ?_ _)); exact BK588.out) hb); replace BK596 := Aside0.mk (blk_below (g := gb596) (o := .cells #[.slice Ao101 t589.length co101, .slice Ao105 t592.length co105] 26 (0, 0)) (by (with_reducible repeat (first | refine blk_drewN ?_ _ | refine blk_drew ?_ | refine blk_alloc ?_ _)); refine blk_put (cs := #[.slice Ao101 t589.length co101, .slice none 0 0]) ?_ 1 _ rfl; (with_reducible repeat (first | refine blk_drewN ?_ _ | refine blk_drew ?_ | refine blk_alloc ?_ _)); refine blk_put (cs := #[.slice none 0 0, .slice none 0 0]) ?_ 0 _ rfl; (with_reducible repeat (first | refine blk_drewN ?_ _ | refine blk_drew ?_ | refine blk_alloc ?_ _)); exact BK596.out) hb); replace HB := Aside0.mk (below_step (bS3 HB.out GE587.out GE588.out GE596.out) hb); (try clear hb); (try clear hb2); (try clear hk); (try clear hi); (try clear ho0); (try clear ho1)) | ((with_reducible refine gate_dst (N := 7) rfl ?_); refine box_event ?hg (N := 7) ?hd (cs := #[.slice none 0 0, .slice none 0 0]) (t := 26) ?hr ?_; (case hd => rfl); (case hg => rfl); (case hr => first | (go_simp; done) | (go_simp; rfl)); intro gb604 hg w109 hbox hb; replace HO577 := Aside0.mk (Kd.R_below (RU HO577.out) hb); replace HO580 := Aside0.mk (Kd.R_below (RU HO580.out) hb); replace HO583 := Aside0.mk (Kd.R_below (RU HO583.out) hb); replace HO586 := Aside0.mk (Kd.R_below (RU HO586.out) hb); replace HO591 := Aside0.mk (Kd.R_below (RU HO591.out) hb); replace HO594 := Aside0.mk (Kd.R_below (RU HO594.out) hb); replace HO599 := Aside0.mk (Kd.R_below (RU HO599.out) hb); replace HO602 := Aside0.mk (Kd.R_below (RU HO602.out) hb); have BK604 := Aside0.mk (hbox); have GW604 := Aside0.mk ((by rw [hg]; exact (below_size (bS3 HB.out GE587.out GE588.out GE596.out)) : w.heap.size ≤ gb604)); have GE604 := Aside0.mk ((by rw [hg]; exact (below_size (bS3 HB.out GE587.out GE588.out GE596.out)) : w.heap.size ≤ gb604)); replace HB := Aside0.mk (below_step (bS3 HB.out GE587.out GE588.out GE596.out) hb); have NB587_604 := Aside0.mk ((by rw [hg]; exact Nat.ne_of_lt (blk_lt (g := gb587) (o := .cells #[.slice Ao92 t575.length co92, .slice Ao95 t578.length co95] 26 (0, 0)) (kU BK587.out)) : gb587 ≠ gb604)); have NB604_587 := Aside0.mk ((by rw [hg]; exact Nat.ne_of_gt (blk_lt (g := gb587) (o := .cells #[.slice Ao92 t575.length co92, .slice Ao95 t578.length co95] 26 (0, 0)) (kU BK587.out)) : gb604 ≠ gb587)); replace BK587 := Aside0.mk (blk_below (g := gb587) (o := .cells #[.slice Ao92 t575.length co92, .slice Ao95 t578.length co95] 26 (0, 0)) (kU BK587.out) hb); have NB588_604 := Aside0.mk ((by rw [hg]; exact Nat.ne_of_lt (blk_lt (g := gb588) (o := .cells #[.slice Ao96 t581.length co96, .slice Ao98 t584.length co98] 26 (0, 0)) (kU BK588.out)) : gb588 ≠ gb604)); have NB604_588 := Aside0.mk ((by rw [hg]; exact Nat.ne_of_gt (blk_lt (g := gb588) (o := .cells #[.slice Ao96 t581.length co96, .slice Ao98 t584.length co98] 26 (0, 0)) (kU BK588.out)) : gb604 ≠ gb588)); replace BK588 := Aside0.mk (blk_below (g := gb588) (o := .cells #[.slice Ao96 t581.length co96, .slice Ao98 t584.length co98] 26 (0, 0)) (kU BK588.out) hb); have NB596_604 := Aside0.mk ((by rw [hg]; exact Nat.ne_of_lt (blk_lt (g := gb596) (o := .cells #[.slice Ao101 t589.length co101, .slice Ao105 t592.length co105] 26 (0, 0)) (kU BK596.out)) : gb596 ≠ gb604)); have NB604_596 := Aside0.mk ((by rw [hg]; exact Nat.ne_of_gt (blk_lt (g := gb596) (o := .cells #[.slice Ao101 t589.length co101, .slice Ao105 t592.length co105] 26 (0, 0)) (kU BK596.out)) : gb604 ≠ gb596)); replace BK596 := Aside0.mk (blk_below (g := gb596) (o := .cells #[.slice Ao101 t589.length co101, .slice Ao105 t592.length co105] 26 (0, 0)) (kU BK596.out) hb); clear hb hbox hg; obtain ⟨Ao110, co110, eo110⟩ := Kd.R_slice HO599.out; subst eo110; have hnb111 := NB604_587.out; have hnc111 := NB587_604.out; have hnb112 := NB604_588.out; have hnc112 := NB588_604.out; have hnb113 := NB604_596.out; have hnc113 := NB596_604.out; have hcz114_0 : w109.cell? ⟨gb604, 0, none⟩ = some (.slice none 0 0) := (blk_cell BK604.out 0).trans rfl; have hcz114_1 : w109.cell? ⟨gb604, 1, none⟩ = some (.slice none 0 0) := (blk_cell BK604.out 1).trans rfl; have hfz114_0 := blk_frozen BK604.out 0; have hfz114_1 := blk_frozen BK604.out 1; obtain ⟨Ao115, co115, eo115⟩ := Kd.R_slice HO602.out; subst eo115; have hcz116_0 : w109.cell? ⟨gb596, 0, none⟩ = some (.slice Ao101 t589.length co101) := (blk_cell BK596.out 0).trans rfl; have hcz116_1 : w109.cell? ⟨gb596, 1, none⟩ = some (.slice Ao105 t592.length co105) := (blk_cell BK596.out 1).trans rfl; have hfz116_0 := blk_frozen BK596.out 0; have hfz116_1 := blk_frozen BK596.out 1))
    go_ret
    exact ⟨by first | rfl | (simp [errW_none, errW_some] <;> rfl) | (simp [*, errW_none, errW_some] <;> rfl), by repeat (first | (with_reducible first | exact HB.out | apply below_alloc | apply pw_below_drewN | apply below_drew1 | refine below_set ?_ GE587.out | refine below_set ?_ GE588.out | refine below_set ?_ GE596.out | refine below_set ?_ GE604.out) | exact HB.out)⟩
  ·
   rw [if_neg c7] at H
   have c7b0 : (t595 == t603) = false := beq_eq_false_iff_ne.mpr c7
   have c7b1 : (t595 != t603) = true := bne_iff_ne.mpr c7
   obtain rfl := Option.some.inj H
   exact absurd HT.out (by decide)

/-- THE ONE PURE STATEMENT of laws_FnRotated: yours. -/
def laws_FnRotated.Pure : Prop := ∀ (l0 : List Int), l0.length ≤ maxLen → l0.length * 1 ≤ 140737488351232 → (∀ x ∈ l0, (Lit.int .u8 x).wf = true) → ∃ k, laws_FnRotated.f k l0 = some true
theorem laws_FnRotated.walk (P : laws_FnRotated.Pure) (a0 : Option Addr) (len0 cap0 : Nat) (z0 : List Int) (w : World) (w0 : (a0 = none ∧ len0 = 0 ∧ cap0 = 0 ∧ z0 = []) ∨ ∃ x, a0 = some x ∧ len0 ≤ cap0 ∧ cap0 ≤ maxLen ∧ z0.length = cap0 ∧ (∀ i, i < z0.length → w.cell? (x.add i) = some (.int .u8 (z0.getD i 0))) ∧ ∀ n ∈ z0, (Lit.int .u8 n).wf = true) (y0 : len0 * 1 ≤ 140737488351232) :
  Calls Try.prog 4 #[.slice a0 len0 cap0] w fun e w' => e = .returned (.bool true) ∧ Below w.heap.size w w' := by
 obtain ⟨l0, rfl, hr0, hm0, hw0, hc0⟩ := ReadsInt.ofRowC w0
 obtain ⟨k, h⟩ := P l0 hm0 y0 hw0
 refine (laws_FnRotated.calls k _ _ l0 true w (Kd.C_of_reads (d := (0 : Int)) (h1 := fun _ => rfl) hr0) hc0 h rfl).mono ?_
 rintro e w' ⟨rfl, hd⟩
 exact ⟨rfl, hd⟩

end Go.Proofs.Ytjkbndfaemjjiaa.PFnRotated
