/- The walk of what a law reaches, for the law's row: written by a program of this session; it has no condition of its own. -/
import Derived.Test.YtkjcpgjhpfocmaaPFnTurnedx0
import Derived.Test.YtkjcpgjhpfocmaaQ
namespace Go.Proofs.Ytkjcpgjhpfocmaa.PFnTurned
open Go.RowKit Go.Proofs.YtkjcpgjhpfocmaaW.PrintWords Go.Proofs.YtkjcpgjhpfocmaaW.PrintLast Go.Proofs.YtkjcpgjhpfocmaaW.PrintMore Go.Proofs.YtkjcpgjhpfocmaaQ
attribute [local go_sem] max2_int min2_int max_two min_two max_three min_three max_four min_four   -- for this text's walks alone
set_option linter.unusedVariables false
set_option linter.unusedSimpArgs false

/-! ### spec_l3Copy: function 24 -/
def spec_l3Copy.f (l0_0 : List Int) (l0_1 : List Int) : Option (List Int × List Int) := (some (([] : List Int) : List Int)).bind fun y415 => (if y415.length + l0_0.length < 17592186044416 then ((some (([] : List Int) : List Int)).bind fun y421 => (if y421.length + l0_1.length < 17592186044416 then (some ((y415 ++ l0_0), (y421 ++ l0_1))) else (none))) else (none))
def spec_l3Copy.T1 : Bool × List (List Nat × List Nat) := (true, [([], []), ([], []), ([1], [1]), ([0, 2], [0, 2]), ([], []), ([], []), ([5], [5]), ([4, 6, 3], [4, 6]), ([3, 7], [3, 7]), ([8, 7, 0, 1, 2, 3, 4, 5, 6, 7, 8], [8])])
def spec_l3Copy.B1 : List Nat := [0, 0, 2, 7, 0, 0, 32, 127, 255, 511]
theorem spec_l3Copy.tab1 : rtab .any (opsOf Try.f24 1) = spec_l3Copy.T1 := by kernel_rfl
theorem spec_l3Copy.bits1 : waitsOk spec_l3Copy.T1.2 spec_l3Copy.B1 = true := by kernel_rfl
set_option maxHeartbeats 8000000 in
set_option maxRecDepth 100000 in
theorem spec_l3Copy.calls (A0_0 : Option Addr) (c0_0 : Nat) (l0_0 : List Int) (A0_1 : Option Addr) (c0_1 : Nat) (l0_1 : List Int) (r1 : List Int) (r2 : List Int) (w : World) (hr0_0 : Kd.C (Kd.int .i64) w A0_0 l0_0.length l0_0) (hc0_0 : l0_0.length ≤ c0_0) (hr0_1 : Kd.C (Kd.int .i64) w A0_1 l0_1.length l0_1) (hc0_1 : l0_1.length ≤ c0_1) (h : spec_l3Copy.f l0_0 l0_1 = some (r1, r2)) :
  Calls Try.prog 24 #[.agg #[.slice A0_0 l0_0.length c0_0, .slice A0_1 l0_1.length c0_1]] w fun e w' => ∃ v0_ v1_ : Value, e = .returned (.agg #[v0_, v1_]) ∧ Kd.R (Kd.int .i64) 3 w' w.heap.size (fun k_ => some k_ ≠ (v1_ : Value).ownBlock) v0_ r1 ∧ Kd.R (Kd.int .i64) 3 w' w.heap.size (fun k_ => some k_ ≠ (v0_ : Value).ownBlock) v1_ r2 ∧ Below w.heap.size w w' := by
 have hu26 := Try.underlying26
 have HR0_0 := Aside0.mk hr0_0
 have HC0_0 := Aside0.mk hc0_0
 clear hr0_0 hc0_0
 have HR0_1 := Aside0.mk hr0_1
 have HC0_1 := Aside0.mk hc0_1
 clear hr0_1 hc0_1
 have HB := Aside0.mk (Below.refl w.heap.size w)
 have H : ((some (([] : List Int) : List Int)).bind fun y415 => (if y415.length + l0_0.length < 17592186044416 then ((some (([] : List Int) : List Int)).bind fun y421 => (if y421.length + l0_1.length < 17592186044416 then (some ((y415 ++ l0_0), (y421 ++ l0_1))) else (none))) else (none))) = some (r1, r2) := h
 clear h
 obtain ⟨y415, hy415⟩ : ∃ y_ : List Int, y_ = (([] : List Int)) := ⟨_, rfl⟩
 replace H : (if y415.length + l0_0.length < 17592186044416 then ((some (([] : List Int) : List Int)).bind fun y421 => (if y421.length + l0_1.length < 17592186044416 then (some ((y415 ++ l0_0), (y421 ++ l0_1))) else (none))) else (none)) = some (r1, r2) := by first | (rw [hy415]; with_reducible exact H) | (have H2_ := (Option.bind_some _ _).symm.trans H; rw [hy415]; with_reducible exact H2_) | (have H2_ := (Option.bind_some _ _).symm.trans H; with_reducible exact H2_) | with_reducible exact H | (rw [hy415]; exact H) | exact H
 have Ny415 := Aside0.mk hy415
 clear hy415
 by_cases c2 : y415.length + l0_0.length < 17592186044416
 ·
  rw [if_pos c2] at H
  have LMc2 := Aside0.mk c2
  clear c2
  obtain ⟨y418, hy418⟩ : ∃ y_ : List Int, y_ = (y415 ++ l0_0) := ⟨_, rfl⟩
  replace H : ((some (([] : List Int) : List Int)).bind fun y421 => (if y421.length + l0_1.length < 17592186044416 then (some (y418, (y421 ++ l0_1))) else (none))) = some (r1, r2) := by first | (rw [hy418]; with_reducible exact H) | (have H2_ := (Option.bind_some _ _).symm.trans H; rw [hy418]; with_reducible exact H2_) | (have H2_ := (Option.bind_some _ _).symm.trans H; with_reducible exact H2_) | with_reducible exact H | (rw [hy418]; exact H) | exact H
  have Ny418 := Aside0.mk hy418
  clear hy418
  obtain ⟨y421, hy421⟩ : ∃ y_ : List Int, y_ = (([] : List Int)) := ⟨_, rfl⟩
  replace H : (if y421.length + l0_1.length < 17592186044416 then (some (y418, (y421 ++ l0_1))) else (none)) = some (r1, r2) := by first | (rw [hy421]; with_reducible exact H) | (have H2_ := (Option.bind_some _ _).symm.trans H; rw [hy421]; with_reducible exact H2_) | (have H2_ := (Option.bind_some _ _).symm.trans H; with_reducible exact H2_) | with_reducible exact H | (rw [hy421]; exact H) | exact H
  have Ny421 := Aside0.mk hy421
  clear hy421
  by_cases c3 : y421.length + l0_1.length < 17592186044416
  ·
   rw [if_pos c3] at H
   have LMc3 := Aside0.mk c3
   clear c3
   obtain ⟨y424, hy424⟩ : ∃ y_ : List Int, y_ = (y421 ++ l0_1) := ⟨_, rfl⟩
   replace H : (some (y418, y424)) = some (r1, r2) := by first | (rw [hy424]; with_reducible exact H) | (have H2_ := (Option.bind_some _ _).symm.trans H; rw [hy424]; with_reducible exact H2_) | (have H2_ := (Option.bind_some _ _).symm.trans H; with_reducible exact H2_) | with_reducible exact H | (rw [hy424]; exact H) | exact H
   have Ny424 := Aside0.mk hy424
   clear hy424
   simp only [Option.some.injEq, Prod.mk.injEq] at H
   obtain ⟨rfl, rfl⟩ := H
   go_enter Try.func24, Try.ntmps24
   try go_wp2_with (first | ((with_reducible refine gate_dst (N := 1) rfl ?_); refine box_event ?hg (N := 1) ?hd (cs := #[.slice A0_0 l0_0.length c0_0, .slice A0_1 l0_1.length c0_1]) (t := 26) ?hr ?_; (case hd => rfl); (case hg => rfl); (case hr => first | (go_simp; done) | (go_simp; rfl)); intro gb413 hg w4 hbox hb; have BK413 := Aside0.mk (hbox); have GW413 := Aside0.mk ((by rw [hg]; exact (below_size (bU HB.out)) : w.heap.size ≤ gb413)); have GE413 := Aside0.mk ((by rw [hg]; exact (below_size (bU HB.out)) : w.heap.size ≤ gb413)); replace HB := Aside0.mk (below_step (bU HB.out) hb); clear hb hbox hg) | ((with_reducible refine gate_dst (N := 2) rfl ?_); refine box_event ?hg (N := 2) ?hd (cs := #[.slice none 0 0, .slice none 0 0]) (t := 26) ?hr ?_; (case hd => rfl); (case hg => rfl); (case hr => first | (go_simp; done) | (go_simp; rfl)); intro gb414 hg w5 hbox hb; have BK414 := Aside0.mk (hbox); have GW414 := Aside0.mk ((by rw [hg]; exact (below_size (bS1 HB.out GE413.out)) : w.heap.size ≤ gb414)); have GE414 := Aside0.mk ((by rw [hg]; exact (below_size (bS1 HB.out GE413.out)) : w.heap.size ≤ gb414)); replace HB := Aside0.mk (below_step (bS1 HB.out GE413.out) hb); have NB413_414 := Aside0.mk (kN BK413.out hg); have NB414_413 := Aside0.mk (kM BK413.out hg); replace BK413 := Aside0.mk (kB BK413.out hb); clear hb hbox hg))
   replace BK413 := Aside0.mk (blk_drew BK413.out)
   replace BK414 := Aside0.mk (blk_drew BK414.out)
   replace HB := Aside0.mk (below_drew1 HB.out)
   refine start_ (n := 10) (S := fun w' => w'.cell? ⟨gb413, 0, none⟩ = some (.slice A0_0 l0_0.length c0_0) ∧ w'.cell? ⟨gb413, 1, none⟩ = some (.slice A0_1 l0_1.length c0_1)) (ds := []) #[false, false, false, false, false, false, false, false, false, false] (by kernel_rfl) rfl rfl ⟨(blk_cell BK413.out 0).trans rfl, (blk_cell BK413.out 1).trans rfl⟩ (fun hHeld => ?_); refine with_tabW spec_l3Copy.tab1 spec_l3Copy.bits1 (fun HT_ HW_ => ?_)
   generalize w5.drew = w6 at BK413 BK414 HB hHeld ⊢
   refine pure_ (i := 1) (N := some 4) (v := ?_) (a' := ?_) #[false, true, false, false, false, false, false, false, false, false] rfl rfl (any_of HT_.out (by kernel_rfl)) (fun _ _ _ h => h) (Or.inl ⟨by rfl, ?_⟩) ?_ ?_
   rotate_left
   ·
    intro w'
    go_simp
    with_reducible rfl
   rotate_left
   ·
    simp only [Act.put, List.setIfInBounds_toArray, List.set_cons_zero, List.set_cons_succ, i64_w, i32_w]
    rfl
   refine pure_ (i := 5) (N := some 8) (v := ?_) (a' := ?_) #[false, true, false, false, false, true, false, false, false, false] rfl rfl (any_of HT_.out (by kernel_rfl)) (fun _ _ _ h => h) (Or.inl ⟨by rfl, ?_⟩) ?_ ?_
   rotate_left
   ·
    intro w'
    go_simp
    with_reducible rfl
   rotate_left
   ·
    simp only [Act.put, List.setIfInBounds_toArray, List.set_cons_zero, List.set_cons_succ, i64_w, i32_w]
    rfl
   refine take_ (i := 2) (N := some 5) (v := ?_) (a' := ?_) #[false, true, true, false, false, true, false, false, false, false] rfl rfl (take_ofW HT_.out HW_.out (by kernel_rfl)) (fun _ _ _ h => h) (Or.inl ⟨by rfl, ?_⟩) hHeld ?_ ?_
   rotate_left
   ·
    rintro w' ⟨s0, s1⟩
    go_simp
    with_reducible rfl
   rotate_left
   ·
    simp only [Act.put, List.setIfInBounds_toArray, List.set_cons_zero, List.set_cons_succ, i64_w, i32_w]
    rfl
   refine take_ (i := 6) (N := some 9) (v := ?_) (a' := ?_) #[false, true, true, false, false, true, true, false, false, false] rfl rfl (take_ofW HT_.out HW_.out (by kernel_rfl)) (fun _ _ _ h => h) (Or.inl ⟨by rfl, ?_⟩) hHeld ?_ ?_
   rotate_left
   ·
    rintro w' ⟨s0, s1⟩
    go_simp
    with_reducible rfl
   rotate_left
   ·
    simp only [Act.put, List.setIfInBounds_toArray, List.set_cons_zero, List.set_cons_succ, i64_w, i32_w]
    rfl
   refine join_ (σ := Value × Value × Value) 3 #[true, true, true, true, true, true, true, false, false, false] (fun s_ => [(3, s_.1), (6, s_.2.1), (7, s_.2.2)]) (fun s_ w' => (w'.cell? ⟨gb413, 0, none⟩ = some (.slice A0_0 l0_0.length c0_0) ∧ w'.cell? ⟨gb413, 1, none⟩ = some (.slice A0_1 l0_1.length c0_1)) ∧ (Kd.R (Kd.int .i64) 3 w' w.heap.size (fun k_ => some k_ ≠ (s_.2.2 : Value).ownBlock) s_.2.1 y418) ∧ (Kd.R (Kd.int .i64) 3 w' w.heap.size (fun k_ => some k_ ≠ (s_.2.1 : Value).ownBlock) s_.2.2 y421) ∧ (w'.heap[gb413]? = some (.cells #[.slice A0_0 l0_0.length c0_0, .slice A0_1 l0_1.length c0_1] 26 (0, 0))) ∧ (w'.heap[gb414]? = some (.cells #[.slice none 0 0, .slice none 0 0] 26 (0, 0))) ∧ (Below w.heap.size w w')) ?_ ?_
   rotate_left
   ·
    intro hCont
    refine two_ (i := 0) (j := 4) (Ni := some 3) (Nj := some 7) #[true, true, true, false, false, true, true, false, false, false] #[false, true, true, false, true, true, true, false, false, false] rfl rfl rfl rfl (two_of HT_.out (by kernel_rfl)) (by decide) (by decide) (fun K hK => ?_) (fun K hK => ?_)
    ·
     skip
     refine Kd.R_lit_step (Kd.int .i64) _ 3 ?hg (N := 3) ?hd (xs := ([] : List Int)) (inner := []) (ok := fun _ => True) (okp := fun _ => True) ?hr ?hp (fun _ hk => hk) trivial (Below.refl _ _) (Nat.le_refl _) (by simp) ?_; (case hd => rfl); (case hg => rfl); (case hr => first | (go_simp; done) | (go_simp; rfl)); (case hp => exact (Reps.none _ _))
     intro v416 w7 ho8 hb hg_ hnew_
     clear hg_ hnew_
     (first | rw [← Ny415.out] at ho8 | (simp only [Int.reduceToNat] at ho8; rw [← Ny415.out] at ho8))
     have HO417 := Aside0.mk (Kd.R_lower ho8 (below_size (bS2 HB.out GE413.out GE414.out)))
     replace BK413 := Aside0.mk (kB BK413.out hb)
     replace BK414 := Aside0.mk (kB BK414.out hb)
     replace HB := Aside0.mk (below_step (bS2 HB.out GE413.out GE414.out) hb)
     clear hb ho8
     refine hK.out _ _ ⟨(blk_cell BK413.out 0).trans rfl, (blk_cell BK413.out 1).trans rfl⟩ (fun hHeld => ?_)
     clear hK K
     refine norm_ (a' := ?_) ?_ ?_
     rotate_left
     ·
      show Act.put _ (some 3) _ = _
      simp only [Act.put, List.setIfInBounds_toArray, List.set_cons_zero, List.set_cons_succ, i64_w, i32_w]
      rfl
     refine two_ (i := 3) (j := 4) (Ni := some 6) (Nj := some 7) #[true, true, true, true, false, true, true, false, false, false] #[true, true, true, false, true, true, true, false, false, false] rfl rfl rfl rfl (two_of HT_.out (by kernel_rfl)) (by decide) (by decide) (fun K hK => ?_) (fun K hK => ?_)
     ·
      skip
      refine Kd.R_append_rows_step (Kd.int .i64) (w0 := w) w.heap.size (by rfl) (.tmp 3) (.tmp 5) 24 3 (.int .i64 0) 8 rfl Try.underlying24 info3 rfl (by decide) (by omega) v416 y415 l0_0 _ _ _ (fun _ => True) (fun _ => False) rfl rfl ?aO ?aR (fun _ _ h => h) (fun _ h => h.elim) ?aF ?aB ?aS ?aL ?_
      (case aR => exact cU (Kd.C_below HR0_0.out HB.out))
      (case aB => exact (bS2 HB.out GE413.out GE414.out))
      (case aF => exact (fun _ _ => trivial))
      (case aO => exact (RU HO417.out))
      (case aS => exact (below_size (bS2 HB.out GE413.out GE414.out)))
      (case aL => have := LMc2.out; omega)
      intro v419 w9 ho hb hg hat
      rw [← Ny418.out] at ho
      have n0_ := Aside0.mk (blk_grown (g := gb413) (o := .cells #[.slice A0_0 l0_0.length c0_0, .slice A0_1 l0_1.length c0_1] 26 (0, 0)) (kU BK413.out) hg (Kd.R_ne HO417.out BK413.out (by decide)))
      have n1_ := Aside0.mk (blk_grown (g := gb414) (o := .cells #[.slice none 0 0, .slice none 0 0] 26 (0, 0)) (kU BK414.out) hg (Kd.R_ne HO417.out BK414.out (by decide)))
      have n2_ := Aside0.mk (hb)
      have n3_ := Aside0.mk (ho)
      clear BK413 BK414 HB HO417
      have BK413 := n0_
      have BK414 := n1_
      have HB := n2_
      have HO420 := n3_
      clear n0_ n1_ n2_ n3_
      clear ho hb hg hat
      refine hK.out _ _ ⟨(blk_cell BK413.out 0).trans rfl, (blk_cell BK413.out 1).trans rfl⟩ (fun hHeld => ?_)
      clear hK K
      refine norm_ (a' := ?_) ?_ ?_
      rotate_left
      ·
       show Act.put _ (some 6) _ = _
       simp only [Act.put, List.setIfInBounds_toArray, List.set_cons_zero, List.set_cons_succ, i64_w, i32_w]
       rfl
      refine one_ (i := 4) (N := some 7) #[true, true, true, true, true, true, true, false, false, false] rfl rfl (one_of HT_.out (by kernel_rfl)) (by decide) (fun K hK => ?_)
      refine Kd.R_lit_step (Kd.int .i64) _ 3 ?hg (N := 7) ?hd (xs := ([] : List Int)) (inner := []) (ok := fun _ => True) (okp := fun _ => True) ?hr ?hp (fun _ hk => hk) trivial (Below.refl _ _) (Nat.le_refl _) (by simp) ?_; (case hd => rfl); (case hg => rfl); (case hr => first | (go_simp; done) | (go_simp; rfl)); (case hp => exact (Reps.none _ _))
      intro v422 w10 ho11 hb hg_ hnew_
      clear hg_ hnew_
      (first | rw [← Ny421.out] at ho11 | (simp only [Int.reduceToNat] at ho11; rw [← Ny421.out] at ho11))
      have HO423 := Aside0.mk (Kd.R_lower (Kd.R_new' ho11 (Kd.R_lt (RU HO420.out))) (below_size (bS2 HB.out GE413.out GE414.out)))
      replace HO420 := Aside0.mk (Kd.R_elder' (RU HO420.out) (Kd.R_base ho11) hb)
      replace BK413 := Aside0.mk (kB BK413.out hb)
      replace BK414 := Aside0.mk (kB BK414.out hb)
      replace HB := Aside0.mk (below_step (bS2 HB.out GE413.out GE414.out) hb)
      clear hb ho11
      refine hK.out _ _ ⟨(blk_cell BK413.out 0).trans rfl, (blk_cell BK413.out 1).trans rfl⟩ (fun hHeld => ?_)
      clear hK K
      refine norm_ (a' := ?_) ?_ ?_
      rotate_left
      ·
       show Act.put _ (some 7) _ = _
       simp only [Act.put, List.setIfInBounds_toArray, List.set_cons_zero, List.set_cons_succ, i64_w, i32_w]
       rfl
      exact norm_ (by simp only [putAll, Act.put, List.setIfInBounds_toArray, List.set_cons_zero, List.set_cons_succ]) (hCont (v416, v419, v422) _ ⟨hHeld, (by refine RU ?_; exact Kd.R_mono HO420.out (fun _ hk => hk.2)), (by refine RU ?_; exact Kd.R_mono HO423.out (fun _ hk => hk.2)), (kU BK413.out), (kU BK414.out), (bS2 HB.out GE413.out GE414.out)⟩)
     ·
      skip
      refine Kd.R_lit_step (Kd.int .i64) _ 3 ?hg (N := 7) ?hd (xs := ([] : List Int)) (inner := []) (ok := fun _ => True) (okp := fun _ => True) ?hr ?hp (fun _ hk => hk) trivial (Below.refl _ _) (Nat.le_refl _) (by simp) ?_; (case hd => rfl); (case hg => rfl); (case hr => first | (go_simp; done) | (go_simp; rfl)); (case hp => exact (Reps.none _ _))
      intro v422 w9 ho10 hb hg_ hnew_
      clear hg_ hnew_
      (first | rw [← Ny421.out] at ho10 | (simp only [Int.reduceToNat] at ho10; rw [← Ny421.out] at ho10))
      have HO423 := Aside0.mk (Kd.R_lower (Kd.R_new' ho10 (Kd.R_lt (RU HO417.out))) (below_size (bS2 HB.out GE413.out GE414.out)))
      replace HO417 := Aside0.mk (Kd.R_elder' (RU HO417.out) (Kd.R_base ho10) hb)
      replace BK413 := Aside0.mk (kB BK413.out hb)
      replace BK414 := Aside0.mk (kB BK414.out hb)
      replace HB := Aside0.mk (below_step (bS2 HB.out GE413.out GE414.out) hb)
      clear hb ho10
      refine hK.out _ _ ⟨(blk_cell BK413.out 0).trans rfl, (blk_cell BK413.out 1).trans rfl⟩ (fun hHeld => ?_)
      clear hK K
      refine norm_ (a' := ?_) ?_ ?_
      rotate_left
      ·
       show Act.put _ (some 7) _ = _
       simp only [Act.put, List.setIfInBounds_toArray, List.set_cons_zero, List.set_cons_succ, i64_w, i32_w]
       rfl
      refine one_ (i := 3) (N := some 6) #[true, true, true, true, true, true, true, false, false, false] rfl rfl (one_of HT_.out (by kernel_rfl)) (by decide) (fun K hK => ?_)
      refine Kd.R_append_rows_step (Kd.int .i64) (w0 := w) w.heap.size (by rfl) (.tmp 3) (.tmp 5) 24 3 (.int .i64 0) 8 rfl Try.underlying24 info3 rfl (by decide) (by omega) v416 y415 l0_0 _ _ _ (fun k_ => some k_ ≠ (v422 : Value).ownBlock) (fun _ => False) rfl rfl ?aO ?aR (fun _ _ h => h) (fun _ h => h.elim) ?aF ?aB ?aS ?aL ?_
      (case aR => exact cU (Kd.C_below HR0_0.out HB.out))
      (case aB => exact (bS2 HB.out GE413.out GE414.out))
      (case aF => exact (fun k_ hk => Kd.fresh' (Kd.R_lt (RU HO423.out)) k_ hk))
      (case aO => exact (by refine RU ?_; exact Kd.R_mono HO417.out (fun _ hk => hk.2)))
      (case aS => exact (below_size (bS2 HB.out GE413.out GE414.out)))
      (case aL => have := LMc2.out; omega)
      intro v419 w11 ho hb hg hat
      rw [← Ny418.out] at ho
      have n0_ := Aside0.mk (blk_grown (g := gb413) (o := .cells #[.slice A0_0 l0_0.length c0_0, .slice A0_1 l0_1.length c0_1] 26 (0, 0)) (kU BK413.out) hg (Kd.R_ne HO417.out BK413.out (by decide)))
      have n1_ := Aside0.mk (blk_grown (g := gb414) (o := .cells #[.slice none 0 0, .slice none 0 0] 26 (0, 0)) (kU BK414.out) hg (Kd.R_ne HO417.out BK414.out (by decide)))
      have n2_ := Aside0.mk (Kd.R_after (ok := (fun _ => True)) (RU HO423.out) hg hat)
      have n3_ := Aside0.mk (hb)
      have n4_ := Aside0.mk (ho)
      clear BK413 BK414 HO423 HB HO417
      have BK413 := n0_
      have BK414 := n1_
      have HO423 := n2_
      have HB := n3_
      have HO420 := n4_
      clear n0_ n1_ n2_ n3_ n4_
      clear ho hb hg hat
      refine hK.out _ _ ⟨(blk_cell BK413.out 0).trans rfl, (blk_cell BK413.out 1).trans rfl⟩ (fun hHeld => ?_)
      clear hK K
      refine norm_ (a' := ?_) ?_ ?_
      rotate_left
      ·
       show Act.put _ (some 6) _ = _
       simp only [Act.put, List.setIfInBounds_toArray, List.set_cons_zero, List.set_cons_succ, i64_w, i32_w]
       rfl
      exact norm_ (by simp only [putAll, Act.put, List.setIfInBounds_toArray, List.set_cons_zero, List.set_cons_succ]) (hCont (v416, v419, v422) _ ⟨hHeld, (RU HO420.out), (by refine RU ?_; exact Kd.R_mono HO423.out (fun _ hk => hk.2)), (kU BK413.out), (kU BK414.out), (bS2 HB.out GE413.out GE414.out)⟩)
    ·
     skip
     refine Kd.R_lit_step (Kd.int .i64) _ 3 ?hg (N := 7) ?hd (xs := ([] : List Int)) (inner := []) (ok := fun _ => True) (okp := fun _ => True) ?hr ?hp (fun _ hk => hk) trivial (Below.refl _ _) (Nat.le_refl _) (by simp) ?_; (case hd => rfl); (case hg => rfl); (case hr => first | (go_simp; done) | (go_simp; rfl)); (case hp => exact (Reps.none _ _))
     intro v422 w7 ho8 hb hg_ hnew_
     clear hg_ hnew_
     (first | rw [← Ny421.out] at ho8 | (simp only [Int.reduceToNat] at ho8; rw [← Ny421.out] at ho8))
     have HO423 := Aside0.mk (Kd.R_lower ho8 (below_size (bS2 HB.out GE413.out GE414.out)))
     replace BK413 := Aside0.mk (kB BK413.out hb)
     replace BK414 := Aside0.mk (kB BK414.out hb)
     replace HB := Aside0.mk (below_step (bS2 HB.out GE413.out GE414.out) hb)
     clear hb ho8
     refine hK.out _ _ ⟨(blk_cell BK413.out 0).trans rfl, (blk_cell BK413.out 1).trans rfl⟩ (fun hHeld => ?_)
     clear hK K
     refine norm_ (a' := ?_) ?_ ?_
     rotate_left
     ·
      show Act.put _ (some 7) _ = _
      simp only [Act.put, List.setIfInBounds_toArray, List.set_cons_zero, List.set_cons_succ, i64_w, i32_w]
      rfl
     refine one_ (i := 0) (N := some 3) #[true, true, true, false, true, true, true, false, false, false] rfl rfl (one_of HT_.out (by kernel_rfl)) (by decide) (fun K hK => ?_)
     refine Kd.R_lit_step (Kd.int .i64) _ 3 ?hg (N := 3) ?hd (xs := ([] : List Int)) (inner := []) (ok := fun _ => True) (okp := fun _ => True) ?hr ?hp (fun _ hk => hk) trivial (Below.refl _ _) (Nat.le_refl _) (by simp) ?_; (case hd => rfl); (case hg => rfl); (case hr => first | (go_simp; done) | (go_simp; rfl)); (case hp => exact (Reps.none _ _))
     intro v416 w9 ho10 hb hg_ hnew_
     clear hg_ hnew_
     (first | rw [← Ny415.out] at ho10 | (simp only [Int.reduceToNat] at ho10; rw [← Ny415.out] at ho10))
     have HO417 := Aside0.mk (Kd.R_lower (Kd.R_new' ho10 (Kd.R_lt (RU HO423.out))) (below_size (bS2 HB.out GE413.out GE414.out)))
     replace HO423 := Aside0.mk (Kd.R_elder' (RU HO423.out) (Kd.R_base ho10) hb)
     replace BK413 := Aside0.mk (kB BK413.out hb)
     replace BK414 := Aside0.mk (kB BK414.out hb)
     replace HB := Aside0.mk (below_step (bS2 HB.out GE413.out GE414.out) hb)
     clear hb ho10
     refine hK.out _ _ ⟨(blk_cell BK413.out 0).trans rfl, (blk_cell BK413.out 1).trans rfl⟩ (fun hHeld => ?_)
     clear hK K
     refine norm_ (a' := ?_) ?_ ?_
     rotate_left
     ·
      show Act.put _ (some 3) _ = _
      simp only [Act.put, List.setIfInBounds_toArray, List.set_cons_zero, List.set_cons_succ, i64_w, i32_w]
      rfl
     refine one_ (i := 3) (N := some 6) #[true, true, true, true, true, true, true, false, false, false] rfl rfl (one_of HT_.out (by kernel_rfl)) (by decide) (fun K hK => ?_)
     refine Kd.R_append_rows_step (Kd.int .i64) (w0 := w) w.heap.size (by rfl) (.tmp 3) (.tmp 5) 24 3 (.int .i64 0) 8 rfl Try.underlying24 info3 rfl (by decide) (by omega) v416 y415 l0_0 _ _ _ (fun k_ => some k_ ≠ (v422 : Value).ownBlock) (fun _ => False) rfl rfl ?aO ?aR (fun _ _ h => h) (fun _ h => h.elim) ?aF ?aB ?aS ?aL ?_
     (case aR => exact cU (Kd.C_below HR0_0.out HB.out))
     (case aB => exact (bS2 HB.out GE413.out GE414.out))
     (case aF => exact (fun k_ hk => Kd.fresh' (Kd.R_lt (RU HO423.out)) k_ hk))
     (case aO => exact (by refine RU ?_; exact Kd.R_mono HO417.out (fun _ hk => hk.2)))
     (case aS => exact (below_size (bS2 HB.out GE413.out GE414.out)))
     (case aL => have := LMc2.out; omega)
     intro v419 w11 ho hb hg hat
     rw [← Ny418.out] at ho
     have n0_ := Aside0.mk (blk_grown (g := gb413) (o := .cells #[.slice A0_0 l0_0.length c0_0, .slice A0_1 l0_1.length c0_1] 26 (0, 0)) (kU BK413.out) hg (Kd.R_ne HO417.out BK413.out (by decide)))
     have n1_ := Aside0.mk (blk_grown (g := gb414) (o := .cells #[.slice none 0 0, .slice none 0 0] 26 (0, 0)) (kU BK414.out) hg (Kd.R_ne HO417.out BK414.out (by decide)))
     have n2_ := Aside0.mk (Kd.R_after (ok := (fun _ => True)) (RU HO423.out) hg hat)
     have n3_ := Aside0.mk (hb)
     have n4_ := Aside0.mk (ho)
     clear BK413 BK414 HO423 HB HO417
     have BK413 := n0_
     have BK414 := n1_
     have HO423 := n2_
     have HB := n3_
     have HO420 := n4_
     clear n0_ n1_ n2_ n3_ n4_
     clear ho hb hg hat
     refine hK.out _ _ ⟨(blk_cell BK413.out 0).trans rfl, (blk_cell BK413.out 1).trans rfl⟩ (fun hHeld => ?_)
     clear hK K
     refine norm_ (a' := ?_) ?_ ?_
     rotate_left
     ·
      show Act.put _ (some 6) _ = _
      simp only [Act.put, List.setIfInBounds_toArray, List.set_cons_zero, List.set_cons_succ, i64_w, i32_w]
      rfl
     exact norm_ (by simp only [putAll, Act.put, List.setIfInBounds_toArray, List.set_cons_zero, List.set_cons_succ]) (hCont (v416, v419, v422) _ ⟨hHeld, (RU HO420.out), (by refine RU ?_; exact Kd.R_mono HO423.out (fun _ hk => hk.2)), (kU BK413.out), (kU BK414.out), (bS2 HB.out GE413.out GE414.out)⟩)
   rintro ⟨v416, v419, v422⟩ w12 ⟨hS_, h0_, h1_, h2_, h3_, h4_⟩
   have n0_ : Aside0 (Kd.R (Kd.int .i64) 3 w12 w.heap.size (fun k_ => some k_ ≠ (v422 : Value).ownBlock) v419 y418) := ⟨h0_⟩
   have n1_ : Aside0 (Kd.R (Kd.int .i64) 3 w12 w.heap.size (fun k_ => some k_ ≠ (v419 : Value).ownBlock) v422 y421) := ⟨h1_⟩
   have n2_ : Aside0 (w12.heap[gb413]? = some (.cells #[.slice A0_0 l0_0.length c0_0, .slice A0_1 l0_1.length c0_1] 26 (0, 0))) := ⟨h2_⟩
   have n3_ : Aside0 (w12.heap[gb414]? = some (.cells #[.slice none 0 0, .slice none 0 0] 26 (0, 0))) := ⟨h3_⟩
   have n4_ : Aside0 (Below w.heap.size w w12) := ⟨h4_⟩
   clear BK413 BK414 HB
   clear h0_ h1_ h2_ h3_ h4_
   have HO420 := n0_
   have HO423 := n1_
   have BK413 := n2_
   have BK414 := n3_
   have HB := n4_
   clear n0_ n1_ n2_ n3_ n4_
   have hHeld : w12.cell? ⟨gb413, 0, none⟩ = some (.slice A0_0 l0_0.length c0_0) ∧ w12.cell? ⟨gb413, 1, none⟩ = some (.slice A0_1 l0_1.length c0_1) := hS_
   refine norm_ (a' := ?_) ?_ ?_
   rotate_left
   ·
    simp only [putAll, Act.put, List.setIfInBounds_toArray, List.set_cons_zero, List.set_cons_succ]
    rfl
   refine one_ (i := 7) (N := some 10) #[true, true, true, true, true, true, true, true, false, false] rfl rfl (one_of HT_.out (by kernel_rfl)) (by decide) (fun K hK => ?_)
   refine Kd.R_append_rows_step (Kd.int .i64) (w0 := w) w.heap.size (by rfl) (.tmp 7) (.tmp 9) 24 3 (.int .i64 0) 8 rfl Try.underlying24 info3 rfl (by decide) (by omega) v422 y421 l0_1 _ _ _ (fun k_ => some k_ ≠ (v419 : Value).ownBlock) (fun _ => False) rfl rfl ?aO ?aR (fun _ _ h => h) (fun _ h => h.elim) ?aF ?aB ?aS ?aL ?_
   (case aR => exact cU (Kd.C_below HR0_1.out HB.out))
   (case aB => exact (bS2 HB.out GE413.out GE414.out))
   (case aF => exact (fun k_ hk => Kd.fresh' (Kd.R_lt (RU HO420.out)) k_ hk))
   (case aO => exact (RU HO423.out))
   (case aS => exact (below_size (bS2 HB.out GE413.out GE414.out)))
   (case aL => have := LMc3.out; omega)
   intro v425 w13 ho hb hg hat
   rw [← Ny424.out] at ho
   have n0_ := Aside0.mk (blk_grown (g := gb413) (o := .cells #[.slice A0_0 l0_0.length c0_0, .slice A0_1 l0_1.length c0_1] 26 (0, 0)) (kU BK413.out) hg (Kd.R_ne HO423.out BK413.out (by decide)))
   have n1_ := Aside0.mk (blk_grown (g := gb414) (o := .cells #[.slice none 0 0, .slice none 0 0] 26 (0, 0)) (kU BK414.out) hg (Kd.R_ne HO423.out BK414.out (by decide)))
   have n2_ := Aside0.mk (Kd.R_after (ok := (fun _ => True)) (by refine RU ?_; exact Kd.R_mono HO420.out (fun _ hk => ⟨trivial, hk⟩)) hg hat)
   have n3_ := Aside0.mk (hb)
   have n4_ := Aside0.mk (ho)
   clear BK413 BK414 HO420 HB HO423
   have BK413 := n0_
   have BK414 := n1_
   have HO420 := n2_
   have HB := n3_
   have HO426 := n4_
   clear n0_ n1_ n2_ n3_ n4_
   clear ho hb hg hat
   obtain ⟨Ao14, co14, eo14⟩ := Kd.R_slice HO426.out
   (first | subst eo14 | (injection eo14 with f1_ f2_ f3_; have f4_ := f1_.symm; have f5_ := f3_.symm; clear f1_ f2_ f3_; subst f4_; subst f5_))
   obtain ⟨Ao15, co15, eo15⟩ := Kd.R_slice HO420.out
   (first | subst eo15 | (injection eo15 with f1_ f2_ f3_; have f4_ := f1_.symm; have f5_ := f3_.symm; clear f1_ f2_ f3_; subst f4_; subst f5_))
   refine hK.out _ _ ⟨(blk_cell BK413.out 0).trans rfl, (blk_cell BK413.out 1).trans rfl⟩ (fun hHeld => ?_)
   clear hK K
   refine norm_ (a' := ?_) ?_ ?_
   rotate_left
   ·
    show Act.put _ (some 10) _ = _
    simp only [Act.put, List.setIfInBounds_toArray, List.set_cons_zero, List.set_cons_succ, i64_w, i32_w]
    rfl
   refine pure_ (i := 8) (N := some 11) (v := ?_) (a' := ?_) #[true, true, true, true, true, true, true, true, true, false] rfl rfl (any_of HT_.out (by kernel_rfl)) (fun _ _ _ h => h) (Or.inl ⟨by rfl, ?_⟩) ?_ ?_
   rotate_left
   ·
    intro w'
    go_simp
    with_reducible rfl
   rotate_left
   ·
    simp only [Act.put, List.setIfInBounds_toArray, List.set_cons_zero, List.set_cons_succ, i64_w, i32_w]
    rfl
   refine one_ (i := 9) (N := none) #[true, true, true, true, true, true, true, true, true, true] rfl rfl (one_of HT_.out (by kernel_rfl)) (by decide) (fun K hK => ?_)
   have hs16 : w13.cell? ⟨gb414, 0, none⟩ = some (.slice none 0 0) := (blk_cell BK414.out 0).trans rfl
   have hfs16 := blk_frozen BK414.out 0
   have hns16_0 := NB413_414.out
   have hms16_0 := NB414_413.out
   have hs17 : w13.cell? ⟨gb414, 1, none⟩ = some (.slice none 0 0) := (blk_cell BK414.out 1).trans rfl
   have hfs17 := blk_frozen BK414.out 1
   have hns17_0 := NB413_414.out
   have hms17_0 := NB414_413.out
   refine skip_ (w1 := ?_) (by rfl) rfl ?_ ?_
   rotate_left
   ·
    go_simp
    rfl
   refine hK.out _ _ ⟨((cell_far (p := ⟨gb414, _, none⟩) NB413_414.out _).trans (((cell_far (p := ⟨gb414, _, none⟩) NB413_414.out _).trans (hHeld.1)))), ((cell_far (p := ⟨gb414, _, none⟩) NB413_414.out _).trans (((cell_far (p := ⟨gb414, _, none⟩) NB413_414.out _).trans (hHeld.2))))⟩ (fun hHeld => ?_)
   clear hK K
   refine done_ (done_of HT_.out (by kernel_rfl)) ?_
   try go_wp2
   refine bodyPost_ret (results_cell_row rfl _ _ gb414 26 #[.slice Ao15 y418.length co15, .slice Ao14 y424.length co14] (0, 0) _ rfl (by refine kU ?_; refine blk_put (cs := #[.slice Ao15 y418.length co15, .slice none 0 0]) ?_ 1 _ rfl; refine kU ?_; refine blk_put (cs := #[.slice none 0 0, .slice none 0 0]) ?_ 0 _ rfl; refine kU ?_; exact BK414.out) Try.underlying26 rfl (by kernel_rfl)) rfl ?_
   exact ⟨_, _, by first | rfl | (simp [errW_none, errW_some] <;> rfl) | (simp [*, errW_none, errW_some] <;> rfl), by refine RU ?_; exact Kd.R_mono (Kd.R_far (p := ⟨gb414, 1, none⟩) (Kd.R_far (p := ⟨gb414, 0, none⟩) (Kd.R_types HO420.out BK414.out (by decide)) (fun _ hk => hk.2) (.slice Ao15 y418.length co15)) (fun _ hk => hk.2) (.slice Ao14 y424.length co14)) (fun _ hk => hk.1.2), by refine RU ?_; exact Kd.R_mono (Kd.R_far (p := ⟨gb414, 1, none⟩) (Kd.R_far (p := ⟨gb414, 0, none⟩) (Kd.R_types HO426.out BK414.out (by decide)) (fun _ hk => hk.2) (.slice Ao15 y418.length co15)) (fun _ hk => hk.2) (.slice Ao14 y424.length co14)) (fun _ hk => hk.1), by exact bS2 HB.out GE413.out GE414.out⟩
  ·
   rw [if_neg c3] at H
   exact absurd H (by simp)
 ·
  rw [if_neg c2] at H
  exact absurd H (by simp)

end Go.Proofs.Ytkjcpgjhpfocmaa.PFnTurned
