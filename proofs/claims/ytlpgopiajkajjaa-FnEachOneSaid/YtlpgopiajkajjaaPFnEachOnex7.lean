/- The walk of what a law reaches, for the law's row: written by a program of this session; it has no condition of its own. -/
import Derived.Test.YtlpgopiajkajjaaPFnEachOnex0
import Derived.Test.YtlpgopiajkajjaaQ
import Derived.Test.YtlpgopiajkajjaaPFnEachOnex2
import Derived.Test.YtlpgopiajkajjaaPFnEachOnex6
namespace Go.Proofs.Ytlpgopiajkajjaa.PFnEachOne
open Go.RowKit Go.Proofs.YtlpgopiajkajjaaW.PrintWords Go.Proofs.YtlpgopiajkajjaaW.PrintLast Go.Proofs.YtlpgopiajkajjaaW.PrintMore Go.Proofs.YtlpgopiajkajjaaQ
attribute [local go_sem] max2_int min2_int max_two min_two max_three min_three max_four min_four   -- for this text's walks alone
set_option linter.unusedVariables false
set_option linter.unusedSimpArgs false

/-! ### spec_l3Copy: function 79 -/
def spec_l3Copy.f (l0_0 : List Int) (l0_1 : List Int) : Option (List Int × List Int) := (some (([] : List Int) : List Int)).bind fun y386 => (if y386.length + l0_0.length < 17592186044416 then ((some (([] : List Int) : List Int)).bind fun y392 => (if y392.length + l0_1.length < 17592186044416 then (some ((y386 ++ l0_0), (y392 ++ l0_1))) else (none))) else (none))
def spec_l3Copy.T1 : Bool × List (List Nat × List Nat) := (true, [([], []), ([], []), ([1], [1]), ([0, 2], [0, 2]), ([], []), ([], []), ([5], [5]), ([4, 6, 3], [4, 6]), ([3, 7], [3, 7]), ([8, 7, 0, 1, 2, 3, 4, 5, 6, 7, 8], [8])])
def spec_l3Copy.B1 : List Nat := [0, 0, 2, 7, 0, 0, 32, 127, 255, 511]
theorem spec_l3Copy.tab1 : rtab .any (opsOf Try.f79 1) = spec_l3Copy.T1 := by kernel_rfl
theorem spec_l3Copy.bits1 : waitsOk spec_l3Copy.T1.2 spec_l3Copy.B1 = true := by kernel_rfl
set_option maxHeartbeats 8000000 in
set_option maxRecDepth 100000 in
theorem spec_l3Copy.calls (A0_0 : Option Addr) (c0_0 : Nat) (l0_0 : List Int) (A0_1 : Option Addr) (c0_1 : Nat) (l0_1 : List Int) (r1 : List Int) (r2 : List Int) (w : World) (hr0_0 : Kd.C (Kd.int .i64) w A0_0 l0_0.length l0_0) (hc0_0 : l0_0.length ≤ c0_0) (hr0_1 : Kd.C (Kd.int .i64) w A0_1 l0_1.length l0_1) (hc0_1 : l0_1.length ≤ c0_1) (h : spec_l3Copy.f l0_0 l0_1 = some (r1, r2)) :
    Calls Try.prog 79 #[.agg #[.slice A0_0 l0_0.length c0_0, .slice A0_1 l0_1.length c0_1]] w fun e w' => ∃ v0_ v1_ : Value, e = .returned (.agg #[v0_, v1_]) ∧ Kd.R (Kd.int .i64) 3 w' w.heap.size (fun k_ => some k_ ≠ (v1_ : Value).ownBlock) v0_ r1 ∧ Kd.R (Kd.int .i64) 3 w' w.heap.size (fun k_ => some k_ ≠ (v0_ : Value).ownBlock) v1_ r2 ∧ Below w.heap.size w w' := by
  have hu36 := Try.underlying36
  have HR0_0 := Aside0.mk hr0_0
  have HC0_0 := Aside0.mk hc0_0
  clear hr0_0 hc0_0
  have HR0_1 := Aside0.mk hr0_1
  have HC0_1 := Aside0.mk hc0_1
  clear hr0_1 hc0_1
  have HB := Aside0.mk (Below.refl w.heap.size w)
  have H : ((some (([] : List Int) : List Int)).bind fun y386 => (if y386.length + l0_0.length < 17592186044416 then ((some (([] : List Int) : List Int)).bind fun y392 => (if y392.length + l0_1.length < 17592186044416 then (some ((y386 ++ l0_0), (y392 ++ l0_1))) else (none))) else (none))) = some (r1, r2) := h
  clear h
  obtain ⟨y386, hy386⟩ : ∃ y_ : List Int, y_ = (([] : List Int)) := ⟨_, rfl⟩
  replace H : (if y386.length + l0_0.length < 17592186044416 then ((some (([] : List Int) : List Int)).bind fun y392 => (if y392.length + l0_1.length < 17592186044416 then (some ((y386 ++ l0_0), (y392 ++ l0_1))) else (none))) else (none)) = some (r1, r2) := by first | (rw [hy386]; with_reducible exact H) | (have H2_ := (Option.bind_some _ _).symm.trans H; rw [hy386]; with_reducible exact H2_) | (have H2_ := (Option.bind_some _ _).symm.trans H; with_reducible exact H2_) | with_reducible exact H | (rw [hy386]; exact H) | exact H
  have Ny386 := Aside0.mk hy386
  clear hy386
  by_cases c2 : y386.length + l0_0.length < 17592186044416
  · rw [if_pos c2] at H
    have LMc2 := Aside0.mk c2
    clear c2
    obtain ⟨y389, hy389⟩ : ∃ y_ : List Int, y_ = (y386 ++ l0_0) := ⟨_, rfl⟩
    replace H : ((some (([] : List Int) : List Int)).bind fun y392 => (if y392.length + l0_1.length < 17592186044416 then (some (y389, (y392 ++ l0_1))) else (none))) = some (r1, r2) := by first | (rw [hy389]; with_reducible exact H) | (have H2_ := (Option.bind_some _ _).symm.trans H; rw [hy389]; with_reducible exact H2_) | (have H2_ := (Option.bind_some _ _).symm.trans H; with_reducible exact H2_) | with_reducible exact H | (rw [hy389]; exact H) | exact H
    have Ny389 := Aside0.mk hy389
    clear hy389
    obtain ⟨y392, hy392⟩ : ∃ y_ : List Int, y_ = (([] : List Int)) := ⟨_, rfl⟩
    replace H : (if y392.length + l0_1.length < 17592186044416 then (some (y389, (y392 ++ l0_1))) else (none)) = some (r1, r2) := by first | (rw [hy392]; with_reducible exact H) | (have H2_ := (Option.bind_some _ _).symm.trans H; rw [hy392]; with_reducible exact H2_) | (have H2_ := (Option.bind_some _ _).symm.trans H; with_reducible exact H2_) | with_reducible exact H | (rw [hy392]; exact H) | exact H
    have Ny392 := Aside0.mk hy392
    clear hy392
    by_cases c3 : y392.length + l0_1.length < 17592186044416
    · rw [if_pos c3] at H
      have LMc3 := Aside0.mk c3
      clear c3
      obtain ⟨y395, hy395⟩ : ∃ y_ : List Int, y_ = (y392 ++ l0_1) := ⟨_, rfl⟩
      replace H : (some (y389, y395)) = some (r1, r2) := by first | (rw [hy395]; with_reducible exact H) | (have H2_ := (Option.bind_some _ _).symm.trans H; rw [hy395]; with_reducible exact H2_) | (have H2_ := (Option.bind_some _ _).symm.trans H; with_reducible exact H2_) | with_reducible exact H | (rw [hy395]; exact H) | exact H
      have Ny395 := Aside0.mk hy395
      clear hy395
      simp only [Option.some.injEq, Prod.mk.injEq] at H
      obtain ⟨rfl, rfl⟩ := H
      go_enter Try.func79, Try.ntmps79
      try go_wp2_with (first | ((with_reducible refine gate_dst (N := 1) rfl ?_); refine box_event ?hg (N := 1) ?hd (cs := #[.slice A0_0 l0_0.length c0_0, .slice A0_1 l0_1.length c0_1]) (t := 36) ?hr ?_; (case hd => rfl); (case hg => rfl); (case hr => first | (go_simp; done) | (go_simp; rfl)); intro gb384 hg w4 hbox hb; have n0_ := Aside0.mk (below_step (bU HB.out) hb); have n1_ := Aside0.mk (hbox); have n2_ := Aside0.mk ((by rw [hg]; exact (below_size (bU HB.out)) : w.heap.size ≤ gb384)); have n3_ := Aside0.mk ((by rw [hg]; exact (below_size (bU HB.out)) : w.heap.size ≤ gb384)); clear HB; have HB := n0_; have BK384 := n1_; have GW384 := n2_; have GE384 := n3_; clear n0_ n1_ n2_ n3_; clear hb hbox hg) | ((with_reducible refine gate_dst (N := 2) rfl ?_); refine box_event ?hg (N := 2) ?hd (cs := #[.slice none 0 0, .slice none 0 0]) (t := 36) ?hr ?_; (case hd => rfl); (case hg => rfl); (case hr => first | (go_simp; done) | (go_simp; rfl)); intro gb385 hg w5 hbox hb; have n0_ := Aside0.mk (blk_below (kU BK384.out) hb); have n1_ := Aside0.mk (below_step (by repeat (first | (with_reducible first | exact HB.out | apply below_alloc | apply pw_below_drewN | apply below_drew1 | refine below_set ?_ GE384.out) | exact HB.out)) hb); have n2_ := Aside0.mk (hbox); have n3_ := Aside0.mk ((by rw [hg]; exact (below_size (by repeat (first | (with_reducible first | exact HB.out | apply below_alloc | apply pw_below_drewN | apply below_drew1 | refine below_set ?_ GE384.out) | exact HB.out))) : w.heap.size ≤ gb385)); have n4_ := Aside0.mk ((by rw [hg]; exact (below_size (by repeat (first | (with_reducible first | exact HB.out | apply below_alloc | apply pw_below_drewN | apply below_drew1 | refine below_set ?_ GE384.out) | exact HB.out))) : w.heap.size ≤ gb385)); have n5_ := Aside0.mk ((by rw [hg]; exact Nat.ne_of_lt (blk_lt (kU BK384.out)) : gb384 ≠ gb385)); have n6_ := Aside0.mk ((by rw [hg]; exact Nat.ne_of_gt (blk_lt (kU BK384.out)) : gb385 ≠ gb384)); clear BK384; clear HB; have BK384 := n0_; have HB := n1_; have BK385 := n2_; have GW385 := n3_; have GE385 := n4_; have NB384_385 := n5_; have NB385_384 := n6_; clear n0_ n1_ n2_ n3_ n4_ n5_ n6_; clear hb hbox hg))
      have n0_ := Aside0.mk (blk_drew BK384.out)
      have n1_ := Aside0.mk (blk_drew BK385.out)
      have n2_ := Aside0.mk (below_drew1 HB.out)
      clear BK384 BK385 HB
      have BK384 := n0_
      have BK385 := n1_
      have HB := n2_
      clear n0_ n1_ n2_
      refine start_ (n := 10) (S := fun w' => w'.cell? ⟨gb384, 0, none⟩ = some (.slice A0_0 l0_0.length c0_0) ∧ w'.cell? ⟨gb384, 1, none⟩ = some (.slice A0_1 l0_1.length c0_1)) (ds := []) #[false, false, false, false, false, false, false, false, false, false] (by kernel_rfl) rfl rfl ⟨(blk_cell BK384.out 0).trans rfl, (blk_cell BK384.out 1).trans rfl⟩ (fun hHeld => ?_); refine with_tabW spec_l3Copy.tab1 spec_l3Copy.bits1 (fun HT_ HW_ => ?_)
      generalize w5.drew = w6 at BK384 BK385 HB hHeld ⊢
      refine pure_ (i := 1) (N := some 4) (v := ?_) (a' := ?_) #[false, true, false, false, false, false, false, false, false, false] rfl rfl (any_of HT_.out (by kernel_rfl)) (fun _ _ _ h => h) (Or.inl ⟨by rfl, ?_⟩) ?_ ?_
      rotate_left
      · intro w'
        go_simp
        with_reducible rfl
      rotate_left
      · simp only [Act.put, List.setIfInBounds_toArray, List.set_cons_zero, List.set_cons_succ, i64_w, i32_w]
        rfl
      refine pure_ (i := 5) (N := some 8) (v := ?_) (a' := ?_) #[false, true, false, false, false, true, false, false, false, false] rfl rfl (any_of HT_.out (by kernel_rfl)) (fun _ _ _ h => h) (Or.inl ⟨by rfl, ?_⟩) ?_ ?_
      rotate_left
      · intro w'
        go_simp
        with_reducible rfl
      rotate_left
      · simp only [Act.put, List.setIfInBounds_toArray, List.set_cons_zero, List.set_cons_succ, i64_w, i32_w]
        rfl
      refine take_ (i := 2) (N := some 5) (v := ?_) (a' := ?_) #[false, true, true, false, false, true, false, false, false, false] rfl rfl (take_ofW HT_.out HW_.out (by kernel_rfl)) (fun _ _ _ h => h) (Or.inl ⟨by rfl, ?_⟩) hHeld ?_ ?_
      rotate_left
      · rintro w' ⟨s0, s1⟩
        go_simp
        with_reducible rfl
      rotate_left
      · simp only [Act.put, List.setIfInBounds_toArray, List.set_cons_zero, List.set_cons_succ, i64_w, i32_w]
        rfl
      refine take_ (i := 6) (N := some 9) (v := ?_) (a' := ?_) #[false, true, true, false, false, true, true, false, false, false] rfl rfl (take_ofW HT_.out HW_.out (by kernel_rfl)) (fun _ _ _ h => h) (Or.inl ⟨by rfl, ?_⟩) hHeld ?_ ?_
      rotate_left
      · rintro w' ⟨s0, s1⟩
        go_simp
        with_reducible rfl
      rotate_left
      · simp only [Act.put, List.setIfInBounds_toArray, List.set_cons_zero, List.set_cons_succ, i64_w, i32_w]
        rfl
      refine join_ (σ := Value × Value × Value) 3 #[true, true, true, true, true, true, true, false, false, false] (fun s_ => [(3, s_.1), (6, s_.2.1), (7, s_.2.2)]) (fun s_ w' => (w'.cell? ⟨gb384, 0, none⟩ = some (.slice A0_0 l0_0.length c0_0) ∧ w'.cell? ⟨gb384, 1, none⟩ = some (.slice A0_1 l0_1.length c0_1)) ∧ (Kd.R (Kd.int .i64) 3 w' w.heap.size (fun k_ => some k_ ≠ (s_.2.2 : Value).ownBlock) s_.2.1 y389) ∧ (Kd.R (Kd.int .i64) 3 w' w.heap.size (fun k_ => some k_ ≠ (s_.2.1 : Value).ownBlock) s_.2.2 y392) ∧ (w'.heap[gb384]? = some (.cells #[.slice A0_0 l0_0.length c0_0, .slice A0_1 l0_1.length c0_1] 36 (0, 0))) ∧ (w'.heap[gb385]? = some (.cells #[.slice none 0 0, .slice none 0 0] 36 (0, 0))) ∧ (Below w.heap.size w w')) ?_ ?_
      rotate_left
      · intro hCont
        refine two_ (i := 0) (j := 4) (Ni := some 3) (Nj := some 7) #[true, true, true, false, false, true, true, false, false, false] #[false, true, true, false, true, true, true, false, false, false] rfl rfl rfl rfl (two_of HT_.out (by kernel_rfl)) (by decide) (by decide) (fun K hK => ?_) (fun K hK => ?_)
        · skip
          refine Kd.R_lit_step (Kd.int .i64) _ 3 ?hg (N := 3) ?hd (xs := ([] : List Int)) (inner := []) (ok := fun _ => True) (okp := fun _ => True) ?hr ?hp (fun _ hk => hk) trivial (Below.refl _ _) (Nat.le_refl _) (by simp) ?_; (case hd => rfl); (case hg => rfl); (case hr => first | (go_simp; done) | (go_simp; rfl)); (case hp => exact (Reps.none _ _))
          intro v387 w7 ho8 hb hg_ hnew_
          clear hg_ hnew_
          (first | rw [← Ny386.out] at ho8 | (simp only [Int.reduceToNat] at ho8; rw [← Ny386.out] at ho8))
          have n0_ := Aside0.mk (Kd.R_lower ho8 (below_size (by repeat (first | (with_reducible first | exact HB.out | apply below_alloc | apply pw_below_drewN | apply below_drew1 | refine below_set ?_ GE384.out | refine below_set ?_ GE385.out) | exact HB.out))))
          have n1_ := Aside0.mk (blk_below (kU BK384.out) hb)
          have n2_ := Aside0.mk (blk_below (kU BK385.out) hb)
          have n3_ := Aside0.mk (below_step (by repeat (first | (with_reducible first | exact HB.out | apply below_alloc | apply pw_below_drewN | apply below_drew1 | refine below_set ?_ GE384.out | refine below_set ?_ GE385.out) | exact HB.out)) hb)
          clear BK384 BK385 HB
          have HO388 := n0_
          have BK384 := n1_
          have BK385 := n2_
          have HB := n3_
          clear n0_ n1_ n2_ n3_
          clear hb ho8
          refine hK.out _ _ ⟨(blk_cell BK384.out 0).trans rfl, (blk_cell BK384.out 1).trans rfl⟩ (fun hHeld => ?_)
          clear hK K
          refine norm_ (a' := ?_) ?_ ?_
          rotate_left
          · show Act.put _ (some 3) _ = _
            simp only [Act.put, List.setIfInBounds_toArray, List.set_cons_zero, List.set_cons_succ, i64_w, i32_w]
            rfl
          refine two_ (i := 3) (j := 4) (Ni := some 6) (Nj := some 7) #[true, true, true, true, false, true, true, false, false, false] #[true, true, true, false, true, true, true, false, false, false] rfl rfl rfl rfl (two_of HT_.out (by kernel_rfl)) (by decide) (by decide) (fun K hK => ?_) (fun K hK => ?_)
          · skip
            refine Kd.R_append_rows_step (Kd.int .i64) (w0 := w) w.heap.size (by rfl) (.tmp 3) (.tmp 5) 32 3 (.int .i64 0) 8 rfl Try.underlying32 info3 rfl (by decide) (by omega) v387 y386 l0_0 _ _ _ (fun _ => True) (fun _ => False) rfl rfl ?aO ?aR (fun _ _ h => h) (fun _ h => h.elim) ?aF ?aB ?aS ?aL ?_
            (case aR => exact cU (Kd.C_below HR0_0.out HB.out))
            (case aB => exact (by repeat (first | (with_reducible first | exact HB.out | apply below_alloc | apply pw_below_drewN | apply below_drew1 | refine below_set ?_ GE384.out | refine below_set ?_ GE385.out) | exact HB.out)))
            (case aF => exact (fun _ _ => trivial))
            (case aO => exact (RU HO388.out))
            (case aS => exact (below_size (by repeat (first | (with_reducible first | exact HB.out | apply below_alloc | apply pw_below_drewN | apply below_drew1 | refine below_set ?_ GE384.out | refine below_set ?_ GE385.out) | exact HB.out))))
            (case aL => have := LMc2.out; omega)
            intro v390 w9 ho hb hg hat
            rw [← Ny389.out] at ho
            have n0_ := Aside0.mk (blk_grown (kU BK384.out) hg (Kd.R_ne HO388.out BK384.out (by decide)))
            have n1_ := Aside0.mk (blk_grown (kU BK385.out) hg (Kd.R_ne HO388.out BK385.out (by decide)))
            have n2_ := Aside0.mk (hb)
            have n3_ := Aside0.mk (ho)
            clear BK384 BK385 HB HO388
            have BK384 := n0_
            have BK385 := n1_
            have HB := n2_
            have HO391 := n3_
            clear n0_ n1_ n2_ n3_
            clear ho hb hg hat
            refine hK.out _ _ ⟨(blk_cell BK384.out 0).trans rfl, (blk_cell BK384.out 1).trans rfl⟩ (fun hHeld => ?_)
            clear hK K
            refine norm_ (a' := ?_) ?_ ?_
            rotate_left
            · show Act.put _ (some 6) _ = _
              simp only [Act.put, List.setIfInBounds_toArray, List.set_cons_zero, List.set_cons_succ, i64_w, i32_w]
              rfl
            refine one_ (i := 4) (N := some 7) #[true, true, true, true, true, true, true, false, false, false] rfl rfl (one_of HT_.out (by kernel_rfl)) (by decide) (fun K hK => ?_)
            refine Kd.R_lit_step (Kd.int .i64) _ 3 ?hg (N := 7) ?hd (xs := ([] : List Int)) (inner := []) (ok := fun _ => True) (okp := fun _ => True) ?hr ?hp (fun _ hk => hk) trivial (Below.refl _ _) (Nat.le_refl _) (by simp) ?_; (case hd => rfl); (case hg => rfl); (case hr => first | (go_simp; done) | (go_simp; rfl)); (case hp => exact (Reps.none _ _))
            intro v393 w10 ho11 hb hg_ hnew_
            clear hg_ hnew_
            (first | rw [← Ny392.out] at ho11 | (simp only [Int.reduceToNat] at ho11; rw [← Ny392.out] at ho11))
            have n0_ := Aside0.mk (Kd.R_elder' (RU HO391.out) (Kd.R_base ho11) hb)
            have n1_ := Aside0.mk (Kd.R_lower (Kd.R_new' ho11 (Kd.R_lt (RU HO391.out))) (below_size (by repeat (first | (with_reducible first | exact HB.out | apply below_alloc | apply pw_below_drewN | apply below_drew1 | refine below_set ?_ GE384.out | refine below_set ?_ GE385.out) | exact HB.out))))
            have n2_ := Aside0.mk (blk_below (kU BK384.out) hb)
            have n3_ := Aside0.mk (blk_below (kU BK385.out) hb)
            have n4_ := Aside0.mk (below_step (by repeat (first | (with_reducible first | exact HB.out | apply below_alloc | apply pw_below_drewN | apply below_drew1 | refine below_set ?_ GE384.out | refine below_set ?_ GE385.out) | exact HB.out)) hb)
            clear HO391 BK384 BK385 HB
            have HO391 := n0_
            have HO394 := n1_
            have BK384 := n2_
            have BK385 := n3_
            have HB := n4_
            clear n0_ n1_ n2_ n3_ n4_
            clear hb ho11
            refine hK.out _ _ ⟨(blk_cell BK384.out 0).trans rfl, (blk_cell BK384.out 1).trans rfl⟩ (fun hHeld => ?_)
            clear hK K
            refine norm_ (a' := ?_) ?_ ?_
            rotate_left
            · show Act.put _ (some 7) _ = _
              simp only [Act.put, List.setIfInBounds_toArray, List.set_cons_zero, List.set_cons_succ, i64_w, i32_w]
              rfl
            exact norm_ (by simp only [putAll, Act.put, List.setIfInBounds_toArray, List.set_cons_zero, List.set_cons_succ]) (hCont (v387, v390, v393) _ ⟨hHeld, (by (with_reducible repeat (first | apply Kd.R_alloc | apply Kd.R_drewN | apply Kd.R_drew)); exact Kd.R_mono HO391.out (fun _ hk => hk.2)), (by (with_reducible repeat (first | apply Kd.R_alloc | apply Kd.R_drewN | apply Kd.R_drew)); exact Kd.R_mono HO394.out (fun _ hk => hk.2)), (kU BK384.out), (kU BK385.out), (by repeat (first | (with_reducible first | exact HB.out | apply below_alloc | apply pw_below_drewN | apply below_drew1 | refine below_set ?_ GE384.out | refine below_set ?_ GE385.out) | exact HB.out))⟩)
          · skip
            refine Kd.R_lit_step (Kd.int .i64) _ 3 ?hg (N := 7) ?hd (xs := ([] : List Int)) (inner := []) (ok := fun _ => True) (okp := fun _ => True) ?hr ?hp (fun _ hk => hk) trivial (Below.refl _ _) (Nat.le_refl _) (by simp) ?_; (case hd => rfl); (case hg => rfl); (case hr => first | (go_simp; done) | (go_simp; rfl)); (case hp => exact (Reps.none _ _))
            intro v393 w9 ho10 hb hg_ hnew_
            clear hg_ hnew_
            (first | rw [← Ny392.out] at ho10 | (simp only [Int.reduceToNat] at ho10; rw [← Ny392.out] at ho10))
            have n0_ := Aside0.mk (Kd.R_elder' (RU HO388.out) (Kd.R_base ho10) hb)
            have n1_ := Aside0.mk (Kd.R_lower (Kd.R_new' ho10 (Kd.R_lt (RU HO388.out))) (below_size (by repeat (first | (with_reducible first | exact HB.out | apply below_alloc | apply pw_below_drewN | apply below_drew1 | refine below_set ?_ GE384.out | refine below_set ?_ GE385.out) | exact HB.out))))
            have n2_ := Aside0.mk (blk_below (kU BK384.out) hb)
            have n3_ := Aside0.mk (blk_below (kU BK385.out) hb)
            have n4_ := Aside0.mk (below_step (by repeat (first | (with_reducible first | exact HB.out | apply below_alloc | apply pw_below_drewN | apply below_drew1 | refine below_set ?_ GE384.out | refine below_set ?_ GE385.out) | exact HB.out)) hb)
            clear HO388 BK384 BK385 HB
            have HO388 := n0_
            have HO394 := n1_
            have BK384 := n2_
            have BK385 := n3_
            have HB := n4_
            clear n0_ n1_ n2_ n3_ n4_
            clear hb ho10
            refine hK.out _ _ ⟨(blk_cell BK384.out 0).trans rfl, (blk_cell BK384.out 1).trans rfl⟩ (fun hHeld => ?_)
            clear hK K
            refine norm_ (a' := ?_) ?_ ?_
            rotate_left
            · show Act.put _ (some 7) _ = _
              simp only [Act.put, List.setIfInBounds_toArray, List.set_cons_zero, List.set_cons_succ, i64_w, i32_w]
              rfl
            refine one_ (i := 3) (N := some 6) #[true, true, true, true, true, true, true, false, false, false] rfl rfl (one_of HT_.out (by kernel_rfl)) (by decide) (fun K hK => ?_)
            refine Kd.R_append_rows_step (Kd.int .i64) (w0 := w) w.heap.size (by rfl) (.tmp 3) (.tmp 5) 32 3 (.int .i64 0) 8 rfl Try.underlying32 info3 rfl (by decide) (by omega) v387 y386 l0_0 _ _ _ (fun k_ => some k_ ≠ (v393 : Value).ownBlock) (fun _ => False) rfl rfl ?aO ?aR (fun _ _ h => h) (fun _ h => h.elim) ?aF ?aB ?aS ?aL ?_
            (case aR => exact cU (Kd.C_below HR0_0.out HB.out))
            (case aB => exact (by repeat (first | (with_reducible first | exact HB.out | apply below_alloc | apply pw_below_drewN | apply below_drew1 | refine below_set ?_ GE384.out | refine below_set ?_ GE385.out) | exact HB.out)))
            (case aF => exact (fun k_ hk => Kd.fresh' (Kd.R_lt (RU HO394.out)) k_ hk))
            (case aO => exact (by (with_reducible repeat (first | apply Kd.R_alloc | apply Kd.R_drewN | apply Kd.R_drew)); exact Kd.R_mono HO388.out (fun _ hk => hk.2)))
            (case aS => exact (below_size (by repeat (first | (with_reducible first | exact HB.out | apply below_alloc | apply pw_below_drewN | apply below_drew1 | refine below_set ?_ GE384.out | refine below_set ?_ GE385.out) | exact HB.out))))
            (case aL => have := LMc2.out; omega)
            intro v390 w11 ho hb hg hat
            rw [← Ny389.out] at ho
            have n0_ := Aside0.mk (blk_grown (kU BK384.out) hg (Kd.R_ne HO388.out BK384.out (by decide)))
            have n1_ := Aside0.mk (blk_grown (kU BK385.out) hg (Kd.R_ne HO388.out BK385.out (by decide)))
            have n2_ := Aside0.mk (Kd.R_after (ok := (fun _ => True)) (RU HO394.out) hg hat)
            have n3_ := Aside0.mk (hb)
            have n4_ := Aside0.mk (ho)
            clear BK384 BK385 HO394 HB HO388
            have BK384 := n0_
            have BK385 := n1_
            have HO394 := n2_
            have HB := n3_
            have HO391 := n4_
            clear n0_ n1_ n2_ n3_ n4_
            clear ho hb hg hat
            refine hK.out _ _ ⟨(blk_cell BK384.out 0).trans rfl, (blk_cell BK384.out 1).trans rfl⟩ (fun hHeld => ?_)
            clear hK K
            refine norm_ (a' := ?_) ?_ ?_
            rotate_left
            · show Act.put _ (some 6) _ = _
              simp only [Act.put, List.setIfInBounds_toArray, List.set_cons_zero, List.set_cons_succ, i64_w, i32_w]
              rfl
            exact norm_ (by simp only [putAll, Act.put, List.setIfInBounds_toArray, List.set_cons_zero, List.set_cons_succ]) (hCont (v387, v390, v393) _ ⟨hHeld, (RU HO391.out), (by (with_reducible repeat (first | apply Kd.R_alloc | apply Kd.R_drewN | apply Kd.R_drew)); exact Kd.R_mono HO394.out (fun _ hk => hk.2)), (kU BK384.out), (kU BK385.out), (by repeat (first | (with_reducible first | exact HB.out | apply below_alloc | apply pw_below_drewN | apply below_drew1 | refine below_set ?_ GE384.out | refine below_set ?_ GE385.out) | exact HB.out))⟩)
        · skip
          refine Kd.R_lit_step (Kd.int .i64) _ 3 ?hg (N := 7) ?hd (xs := ([] : List Int)) (inner := []) (ok := fun _ => True) (okp := fun _ => True) ?hr ?hp (fun _ hk => hk) trivial (Below.refl _ _) (Nat.le_refl _) (by simp) ?_; (case hd => rfl); (case hg => rfl); (case hr => first | (go_simp; done) | (go_simp; rfl)); (case hp => exact (Reps.none _ _))
          intro v393 w7 ho8 hb hg_ hnew_
          clear hg_ hnew_
          (first | rw [← Ny392.out] at ho8 | (simp only [Int.reduceToNat] at ho8; rw [← Ny392.out] at ho8))
          have n0_ := Aside0.mk (Kd.R_lower ho8 (below_size (by repeat (first | (with_reducible first | exact HB.out | apply below_alloc | apply pw_below_drewN | apply below_drew1 | refine below_set ?_ GE384.out | refine below_set ?_ GE385.out) | exact HB.out))))
          have n1_ := Aside0.mk (blk_below (kU BK384.out) hb)
          have n2_ := Aside0.mk (blk_below (kU BK385.out) hb)
          have n3_ := Aside0.mk (below_step (by repeat (first | (with_reducible first | exact HB.out | apply below_alloc | apply pw_below_drewN | apply below_drew1 | refine below_set ?_ GE384.out | refine below_set ?_ GE385.out) | exact HB.out)) hb)
          clear BK384 BK385 HB
          have HO394 := n0_
          have BK384 := n1_
          have BK385 := n2_
          have HB := n3_
          clear n0_ n1_ n2_ n3_
          clear hb ho8
          refine hK.out _ _ ⟨(blk_cell BK384.out 0).trans rfl, (blk_cell BK384.out 1).trans rfl⟩ (fun hHeld => ?_)
          clear hK K
          refine norm_ (a' := ?_) ?_ ?_
          rotate_left
          · show Act.put _ (some 7) _ = _
            simp only [Act.put, List.setIfInBounds_toArray, List.set_cons_zero, List.set_cons_succ, i64_w, i32_w]
            rfl
          refine one_ (i := 0) (N := some 3) #[true, true, true, false, true, true, true, false, false, false] rfl rfl (one_of HT_.out (by kernel_rfl)) (by decide) (fun K hK => ?_)
          refine Kd.R_lit_step (Kd.int .i64) _ 3 ?hg (N := 3) ?hd (xs := ([] : List Int)) (inner := []) (ok := fun _ => True) (okp := fun _ => True) ?hr ?hp (fun _ hk => hk) trivial (Below.refl _ _) (Nat.le_refl _) (by simp) ?_; (case hd => rfl); (case hg => rfl); (case hr => first | (go_simp; done) | (go_simp; rfl)); (case hp => exact (Reps.none _ _))
          intro v387 w9 ho10 hb hg_ hnew_
          clear hg_ hnew_
          (first | rw [← Ny386.out] at ho10 | (simp only [Int.reduceToNat] at ho10; rw [← Ny386.out] at ho10))
          have n0_ := Aside0.mk (Kd.R_elder' (RU HO394.out) (Kd.R_base ho10) hb)
          have n1_ := Aside0.mk (Kd.R_lower (Kd.R_new' ho10 (Kd.R_lt (RU HO394.out))) (below_size (by repeat (first | (with_reducible first | exact HB.out | apply below_alloc | apply pw_below_drewN | apply below_drew1 | refine below_set ?_ GE384.out | refine below_set ?_ GE385.out) | exact HB.out))))
          have n2_ := Aside0.mk (blk_below (kU BK384.out) hb)
          have n3_ := Aside0.mk (blk_below (kU BK385.out) hb)
          have n4_ := Aside0.mk (below_step (by repeat (first | (with_reducible first | exact HB.out | apply below_alloc | apply pw_below_drewN | apply below_drew1 | refine below_set ?_ GE384.out | refine below_set ?_ GE385.out) | exact HB.out)) hb)
          clear HO394 BK384 BK385 HB
          have HO394 := n0_
          have HO388 := n1_
          have BK384 := n2_
          have BK385 := n3_
          have HB := n4_
          clear n0_ n1_ n2_ n3_ n4_
          clear hb ho10
          refine hK.out _ _ ⟨(blk_cell BK384.out 0).trans rfl, (blk_cell BK384.out 1).trans rfl⟩ (fun hHeld => ?_)
          clear hK K
          refine norm_ (a' := ?_) ?_ ?_
          rotate_left
          · show Act.put _ (some 3) _ = _
            simp only [Act.put, List.setIfInBounds_toArray, List.set_cons_zero, List.set_cons_succ, i64_w, i32_w]
            rfl
          refine one_ (i := 3) (N := some 6) #[true, true, true, true, true, true, true, false, false, false] rfl rfl (one_of HT_.out (by kernel_rfl)) (by decide) (fun K hK => ?_)
          refine Kd.R_append_rows_step (Kd.int .i64) (w0 := w) w.heap.size (by rfl) (.tmp 3) (.tmp 5) 32 3 (.int .i64 0) 8 rfl Try.underlying32 info3 rfl (by decide) (by omega) v387 y386 l0_0 _ _ _ (fun k_ => some k_ ≠ (v393 : Value).ownBlock) (fun _ => False) rfl rfl ?aO ?aR (fun _ _ h => h) (fun _ h => h.elim) ?aF ?aB ?aS ?aL ?_
          (case aR => exact cU (Kd.C_below HR0_0.out HB.out))
          (case aB => exact (by repeat (first | (with_reducible first | exact HB.out | apply below_alloc | apply pw_below_drewN | apply below_drew1 | refine below_set ?_ GE384.out | refine below_set ?_ GE385.out) | exact HB.out)))
          (case aF => exact (fun k_ hk => Kd.fresh' (Kd.R_lt (RU HO394.out)) k_ hk))
          (case aO => exact (by (with_reducible repeat (first | apply Kd.R_alloc | apply Kd.R_drewN | apply Kd.R_drew)); exact Kd.R_mono HO388.out (fun _ hk => hk.2)))
          (case aS => exact (below_size (by repeat (first | (with_reducible first | exact HB.out | apply below_alloc | apply pw_below_drewN | apply below_drew1 | refine below_set ?_ GE384.out | refine below_set ?_ GE385.out) | exact HB.out))))
          (case aL => have := LMc2.out; omega)
          intro v390 w11 ho hb hg hat
          rw [← Ny389.out] at ho
          have n0_ := Aside0.mk (blk_grown (kU BK384.out) hg (Kd.R_ne HO388.out BK384.out (by decide)))
          have n1_ := Aside0.mk (blk_grown (kU BK385.out) hg (Kd.R_ne HO388.out BK385.out (by decide)))
          have n2_ := Aside0.mk (Kd.R_after (ok := (fun _ => True)) (RU HO394.out) hg hat)
          have n3_ := Aside0.mk (hb)
          have n4_ := Aside0.mk (ho)
          clear BK384 BK385 HO394 HB HO388
          have BK384 := n0_
          have BK385 := n1_
          have HO394 := n2_
          have HB := n3_
          have HO391 := n4_
          clear n0_ n1_ n2_ n3_ n4_
          clear ho hb hg hat
          refine hK.out _ _ ⟨(blk_cell BK384.out 0).trans rfl, (blk_cell BK384.out 1).trans rfl⟩ (fun hHeld => ?_)
          clear hK K
          refine norm_ (a' := ?_) ?_ ?_
          rotate_left
          · show Act.put _ (some 6) _ = _
            simp only [Act.put, List.setIfInBounds_toArray, List.set_cons_zero, List.set_cons_succ, i64_w, i32_w]
            rfl
          exact norm_ (by simp only [putAll, Act.put, List.setIfInBounds_toArray, List.set_cons_zero, List.set_cons_succ]) (hCont (v387, v390, v393) _ ⟨hHeld, (RU HO391.out), (by (with_reducible repeat (first | apply Kd.R_alloc | apply Kd.R_drewN | apply Kd.R_drew)); exact Kd.R_mono HO394.out (fun _ hk => hk.2)), (kU BK384.out), (kU BK385.out), (by repeat (first | (with_reducible first | exact HB.out | apply below_alloc | apply pw_below_drewN | apply below_drew1 | refine below_set ?_ GE384.out | refine below_set ?_ GE385.out) | exact HB.out))⟩)
      rintro ⟨v387, v390, v393⟩ w12 ⟨hS_, h0_, h1_, h2_, h3_, h4_⟩
      have n0_ : Aside0 (Kd.R (Kd.int .i64) 3 w12 w.heap.size (fun k_ => some k_ ≠ (v393 : Value).ownBlock) v390 y389) := ⟨h0_⟩
      have n1_ : Aside0 (Kd.R (Kd.int .i64) 3 w12 w.heap.size (fun k_ => some k_ ≠ (v390 : Value).ownBlock) v393 y392) := ⟨h1_⟩
      have n2_ : Aside0 (w12.heap[gb384]? = some (.cells #[.slice A0_0 l0_0.length c0_0, .slice A0_1 l0_1.length c0_1] 36 (0, 0))) := ⟨h2_⟩
      have n3_ : Aside0 (w12.heap[gb385]? = some (.cells #[.slice none 0 0, .slice none 0 0] 36 (0, 0))) := ⟨h3_⟩
      have n4_ : Aside0 (Below w.heap.size w w12) := ⟨h4_⟩
      clear BK384 BK385 HB
      clear h0_ h1_ h2_ h3_ h4_
      have HO391 := n0_
      have HO394 := n1_
      have BK384 := n2_
      have BK385 := n3_
      have HB := n4_
      clear n0_ n1_ n2_ n3_ n4_
      have hHeld : w12.cell? ⟨gb384, 0, none⟩ = some (.slice A0_0 l0_0.length c0_0) ∧ w12.cell? ⟨gb384, 1, none⟩ = some (.slice A0_1 l0_1.length c0_1) := hS_
      refine norm_ (a' := ?_) ?_ ?_
      rotate_left
      · simp only [putAll, Act.put, List.setIfInBounds_toArray, List.set_cons_zero, List.set_cons_succ]
        rfl
      refine one_ (i := 7) (N := some 10) #[true, true, true, true, true, true, true, true, false, false] rfl rfl (one_of HT_.out (by kernel_rfl)) (by decide) (fun K hK => ?_)
      refine Kd.R_append_rows_step (Kd.int .i64) (w0 := w) w.heap.size (by rfl) (.tmp 7) (.tmp 9) 32 3 (.int .i64 0) 8 rfl Try.underlying32 info3 rfl (by decide) (by omega) v393 y392 l0_1 _ _ _ (fun k_ => some k_ ≠ (v390 : Value).ownBlock) (fun _ => False) rfl rfl ?aO ?aR (fun _ _ h => h) (fun _ h => h.elim) ?aF ?aB ?aS ?aL ?_
      (case aR => exact cU (Kd.C_below HR0_1.out HB.out))
      (case aB => exact (by repeat (first | (with_reducible first | exact HB.out | apply below_alloc | apply pw_below_drewN | apply below_drew1 | refine below_set ?_ GE384.out | refine below_set ?_ GE385.out) | exact HB.out)))
      (case aF => exact (fun k_ hk => Kd.fresh' (Kd.R_lt (RU HO391.out)) k_ hk))
      (case aO => exact (RU HO394.out))
      (case aS => exact (below_size (by repeat (first | (with_reducible first | exact HB.out | apply below_alloc | apply pw_below_drewN | apply below_drew1 | refine below_set ?_ GE384.out | refine below_set ?_ GE385.out) | exact HB.out))))
      (case aL => have := LMc3.out; omega)
      intro v396 w13 ho hb hg hat
      rw [← Ny395.out] at ho
      have n0_ := Aside0.mk (blk_grown (kU BK384.out) hg (Kd.R_ne HO394.out BK384.out (by decide)))
      have n1_ := Aside0.mk (blk_grown (kU BK385.out) hg (Kd.R_ne HO394.out BK385.out (by decide)))
      have n2_ := Aside0.mk (Kd.R_after (ok := (fun _ => True)) (by (with_reducible repeat (first | apply Kd.R_alloc | apply Kd.R_drewN | apply Kd.R_drew)); exact Kd.R_mono HO391.out (fun _ hk => ⟨trivial, hk⟩)) hg hat)
      have n3_ := Aside0.mk (hb)
      have n4_ := Aside0.mk (ho)
      clear BK384 BK385 HO391 HB HO394
      have BK384 := n0_
      have BK385 := n1_
      have HO391 := n2_
      have HB := n3_
      have HO397 := n4_
      clear n0_ n1_ n2_ n3_ n4_
      clear ho hb hg hat
      obtain ⟨Ao14, co14, eo14⟩ := Kd.R_slice HO397.out
      (first | subst eo14 | (injection eo14 with f1_ f2_ f3_; have f4_ := f1_.symm; have f5_ := f3_.symm; clear f1_ f2_ f3_; subst f4_; subst f5_))
      obtain ⟨Ao15, co15, eo15⟩ := Kd.R_slice HO391.out
      (first | subst eo15 | (injection eo15 with f1_ f2_ f3_; have f4_ := f1_.symm; have f5_ := f3_.symm; clear f1_ f2_ f3_; subst f4_; subst f5_))
      refine hK.out _ _ ⟨(blk_cell BK384.out 0).trans rfl, (blk_cell BK384.out 1).trans rfl⟩ (fun hHeld => ?_)
      clear hK K
      refine norm_ (a' := ?_) ?_ ?_
      rotate_left
      · show Act.put _ (some 10) _ = _
        simp only [Act.put, List.setIfInBounds_toArray, List.set_cons_zero, List.set_cons_succ, i64_w, i32_w]
        rfl
      refine pure_ (i := 8) (N := some 11) (v := ?_) (a' := ?_) #[true, true, true, true, true, true, true, true, true, false] rfl rfl (any_of HT_.out (by kernel_rfl)) (fun _ _ _ h => h) (Or.inl ⟨by rfl, ?_⟩) ?_ ?_
      rotate_left
      · intro w'
        go_simp
        with_reducible rfl
      rotate_left
      · simp only [Act.put, List.setIfInBounds_toArray, List.set_cons_zero, List.set_cons_succ, i64_w, i32_w]
        rfl
      refine one_ (i := 9) (N := none) #[true, true, true, true, true, true, true, true, true, true] rfl rfl (one_of HT_.out (by kernel_rfl)) (by decide) (fun K hK => ?_)
      have hs16 : w13.cell? ⟨gb385, 0, none⟩ = some (.slice none 0 0) := (blk_cell BK385.out 0).trans rfl
      have hfs16 := blk_frozen BK385.out 0
      have hns16_0 := NB384_385.out
      have hms16_0 := NB385_384.out
      have hs17 : w13.cell? ⟨gb385, 1, none⟩ = some (.slice none 0 0) := (blk_cell BK385.out 1).trans rfl
      have hfs17 := blk_frozen BK385.out 1
      have hns17_0 := NB384_385.out
      have hms17_0 := NB385_384.out
      refine skip_ (w1 := ?_) (by rfl) rfl ?_ ?_
      rotate_left
      · go_simp
        rfl
      refine hK.out _ _ ⟨((cell_far (p := ⟨gb385, _, none⟩) NB384_385.out _).trans (((cell_far (p := ⟨gb385, _, none⟩) NB384_385.out _).trans (hHeld.1)))), ((cell_far (p := ⟨gb385, _, none⟩) NB384_385.out _).trans (((cell_far (p := ⟨gb385, _, none⟩) NB384_385.out _).trans (hHeld.2))))⟩ (fun hHeld => ?_)
      clear hK K
      refine done_ (done_of HT_.out (by kernel_rfl)) ?_
      try go_wp2
      refine bodyPost_ret (results_cell_row rfl _ _ gb385 36 #[.slice Ao15 y389.length co15, .slice Ao14 y395.length co14] (0, 0) _ rfl (by (with_reducible repeat (first | refine blk_drewN ?_ _ | refine blk_drew ?_ | refine blk_alloc ?_ _)); refine blk_put (cs := #[.slice Ao15 y389.length co15, .slice none 0 0]) ?_ 1 _ rfl; (with_reducible repeat (first | refine blk_drewN ?_ _ | refine blk_drew ?_ | refine blk_alloc ?_ _)); refine blk_put (cs := #[.slice none 0 0, .slice none 0 0]) ?_ 0 _ rfl; (with_reducible repeat (first | refine blk_drewN ?_ _ | refine blk_drew ?_ | refine blk_alloc ?_ _)); exact BK385.out) Try.underlying36 rfl (by kernel_rfl)) rfl ?_
      exact ⟨_, _, by first | rfl | (simp [errW_none, errW_some] <;> rfl) | (simp [*, errW_none, errW_some] <;> rfl), by (with_reducible repeat (first | apply Kd.R_alloc | apply Kd.R_drewN | apply Kd.R_drew)); exact Kd.R_mono (Kd.R_far (p := ⟨gb385, 1, none⟩) (Kd.R_far (p := ⟨gb385, 0, none⟩) (Kd.R_types HO391.out BK385.out (by decide)) (fun _ hk => hk.2) (.slice Ao15 y389.length co15)) (fun _ hk => hk.2) (.slice Ao14 y395.length co14)) (fun _ hk => hk.1.2), by (with_reducible repeat (first | apply Kd.R_alloc | apply Kd.R_drewN | apply Kd.R_drew)); exact Kd.R_mono (Kd.R_far (p := ⟨gb385, 1, none⟩) (Kd.R_far (p := ⟨gb385, 0, none⟩) (Kd.R_types HO397.out BK385.out (by decide)) (fun _ hk => hk.2) (.slice Ao15 y389.length co15)) (fun _ hk => hk.2) (.slice Ao14 y395.length co14)) (fun _ hk => hk.1), by repeat (first | (with_reducible first | exact HB.out | apply below_alloc | apply pw_below_drewN | apply below_drew1 | refine below_set ?_ GE384.out | refine below_set ?_ GE385.out) | exact HB.out)⟩
    · rw [if_neg c3] at H
      exact absurd H (by simp)
  · rw [if_neg c2] at H
    exact absurd H (by simp)

/-! ### spec_EachOne: function 39 -/
mutual
def spec_EachOne.j0 : Nat → Int → Bool → List Int → List Int → Option (List Int × List Int × Int)
  | 0, _, _, _, _ => none
  | k + 1, x0, x17, x399000, x399001 => if x17 = true then (some (([] : List Int), ([] : List Int), 1)) else ((spec_l3Copy.f x399000 x399001).bind fun bt402 => (spec_EachOne.l0 k x0 0 x399000 x399001 bt402.1 bt402.2))
def spec_EachOne.l0 : Nat → Int → Int → List Int → List Int → List Int → List Int → Option (List Int × List Int × Int)
  | 0, _, _, _, _, _, _ => none
  | k + 1, x0, x7, x399000, x399001, x409000, x409001 => if x7 < (x399001.length : Int) then (if 0 ≤ x7 then ((spec_One.f k x0 (rd x399001 x7)).bind fun bt410 => (if bt410.2 = 0 then (if x7 < (x409001.length : Int) then (spec_EachOne.l0 k x0 (wrap64 (x7 + 1)) x399000 x399001 x409000 (x409001.set (x7 : Int).toNat bt410.1)) else (none)) else (some (([] : List Int), ([] : List Int), bt410.2)))) else (none)) else (some (x409000, x409001, 0))
end
def spec_EachOne.f (k : Nat) (a0 : Int) (l1_0 : List Int) (l1_1 : List Int) : Option (List Int × List Int × Int) := (spec_ArrayOk.f k l1_0 l1_1).bind fun t400 => (if t400 = true then ((spec_l1Sign1.f a0).bind fun t401 => (spec_EachOne.j0 k a0 (!t401) l1_0 l1_1)) else (spec_EachOne.j0 k a0 true l1_0 l1_1))
theorem spec_EachOne.mono_l : ∀ k, (∀ y0 y1 y2 y3, LeO (spec_EachOne.j0 k y0 y1 y2 y3) (spec_EachOne.j0 (k + 1) y0 y1 y2 y3)) ∧ (∀ y0 y1 y2 y3 y4 y5, LeO (spec_EachOne.l0 k y0 y1 y2 y3 y4 y5) (spec_EachOne.l0 (k + 1) y0 y1 y2 y3 y4 y5))
  | 0 => ⟨fun _ _ _ _ r h => by simp [spec_EachOne.j0] at h, fun _ _ _ _ _ _ r h => by simp [spec_EachOne.l0] at h⟩
  | k + 1 => by
    obtain ⟨ih0, ih1⟩ := spec_EachOne.mono_l k
    refine ⟨?_, ?_⟩
    · intro y0 y1 y2 y3
      unfold spec_EachOne.j0
      repeat' first
      | (with_reducible exact ih0 _ _ _ _)
      | (with_reducible exact ih1 _ _ _ _ _ _)
      | (with_reducible exact spec_ArrayOk.mono _ _ _)
      | (with_reducible exact spec_One.mono _ _ _)
      | (with_reducible exact LeO.refl _)
      | (with_reducible exact LeO.none _)
      | (with_reducible refine LeO.ite ?_ ?_)
      | (with_reducible refine LeO.bind ?_ (fun _ => ?_))
      | exact ih0 _ _ _ _
      | exact ih1 _ _ _ _ _ _
      | exact spec_ArrayOk.mono _ _ _
      | exact spec_One.mono _ _ _
      | exact LeO.none _
      | refine LeO.ite ?_ ?_
      | refine LeO.bind ?_ (fun _ => ?_)
    · intro y0 y1 y2 y3 y4 y5
      unfold spec_EachOne.l0
      repeat' first
      | (with_reducible exact ih0 _ _ _ _)
      | (with_reducible exact ih1 _ _ _ _ _ _)
      | (with_reducible exact spec_ArrayOk.mono _ _ _)
      | (with_reducible exact spec_One.mono _ _ _)
      | (with_reducible exact LeO.refl _)
      | (with_reducible exact LeO.none _)
      | (with_reducible refine LeO.ite ?_ ?_)
      | (with_reducible refine LeO.bind ?_ (fun _ => ?_))
      | exact ih0 _ _ _ _
      | exact ih1 _ _ _ _ _ _
      | exact spec_ArrayOk.mono _ _ _
      | exact spec_One.mono _ _ _
      | exact LeO.none _
      | refine LeO.ite ?_ ?_
      | refine LeO.bind ?_ (fun _ => ?_)
theorem spec_EachOne.mono : ∀ a0 a1 a2 k, LeO (spec_EachOne.f k a0 a1 a2) (spec_EachOne.f (k + 1) a0 a1 a2) := by
  intro a0 a1 a2 k
  obtain ⟨ih0, ih1⟩ := spec_EachOne.mono_l k
  unfold spec_EachOne.f
  repeat' first
      | (with_reducible exact ih0 _ _ _ _)
      | (with_reducible exact ih1 _ _ _ _ _ _)
      | (with_reducible exact spec_ArrayOk.mono _ _ _)
      | (with_reducible exact spec_One.mono _ _ _)
      | (with_reducible exact LeO.refl _)
      | (with_reducible exact LeO.none _)
      | (with_reducible refine LeO.ite ?_ ?_)
      | (with_reducible refine LeO.bind ?_ (fun _ => ?_))
      | exact ih0 _ _ _ _
      | exact ih1 _ _ _ _ _ _
      | exact spec_ArrayOk.mono _ _ _
      | exact spec_One.mono _ _ _
      | exact LeO.none _
      | refine LeO.ite ?_ ?_
      | refine LeO.bind ?_ (fun _ => ?_)
set_option maxHeartbeats 8000000 in
set_option maxRecDepth 100000 in
theorem spec_EachOne.calls (k : Nat) (a0 : Int) (A1_0 : Option Addr) (c1_0 : Nat) (l1_0 : List Int) (A1_1 : Option Addr) (c1_1 : Nat) (l1_1 : List Int) (r1 : List Int) (r2 : List Int) (r3 : Int) (w : World) (hr1_0 : Kd.C (Kd.int .i64) w A1_0 l1_0.length l1_0) (hc1_0 : l1_0.length ≤ c1_0) (hr1_1 : Kd.C (Kd.int .i64) w A1_1 l1_1.length l1_1) (hc1_1 : l1_1.length ≤ c1_1) (h : spec_EachOne.f k a0 l1_0 l1_1 = some (r1, r2, r3)) :
    Calls Try.prog 39 #[.int .i64 a0, .agg #[.slice A1_0 l1_0.length c1_0, .slice A1_1 l1_1.length c1_1]] w fun e w' => ∃ v0_ v1_ : Value, e = .returned (.tuple #[.agg #[v0_, v1_], .int .i64 r3]) ∧ Kd.R (Kd.int .i64) 3 w' w.heap.size (fun k_ => some k_ ≠ (v1_ : Value).ownBlock) v0_ r1 ∧ Kd.R (Kd.int .i64) 3 w' w.heap.size (fun k_ => some k_ ≠ (v0_ : Value).ownBlock) v1_ r2 ∧ Below w.heap.size w w' := by
  have hu36 := Try.underlying36
  have HR1_0 := Aside0.mk hr1_0
  have HC1_0 := Aside0.mk hc1_0
  clear hr1_0 hc1_0
  have HR1_1 := Aside0.mk hr1_1
  have HC1_1 := Aside0.mk hc1_1
  clear hr1_1 hc1_1
  have HB := Aside0.mk (Below.refl w.heap.size w)
  have H : ((spec_ArrayOk.f k l1_0 l1_1).bind fun t400 => (if t400 = true then ((spec_l1Sign1.f a0).bind fun t401 => (spec_EachOne.j0 k a0 (!t401) l1_0 l1_1)) else (spec_EachOne.j0 k a0 true l1_0 l1_1))) = some (r1, r2, r3) := h
  clear h
  have HC3 := Aside0.mk H
  clear H
  go_enter Try.func39, Try.ntmps39
  go_upto_region 1 with (first | ((with_reducible refine gate_dst (N := 3) rfl ?_); refine box_event ?hg (N := 3) ?hd (cs := #[.slice A1_0 l1_0.length c1_0, .slice A1_1 l1_1.length c1_1]) (t := 36) ?hr ?_; (case hd => rfl); (case hg => rfl); (case hr => first | (go_simp; done) | (go_simp; rfl)); intro gb398 hg w4 hbox hb; have n0_ := Aside0.mk (below_step (bU HB.out) hb); have n1_ := Aside0.mk (hbox); have n2_ := Aside0.mk ((by rw [hg]; exact (below_size (bU HB.out)) : w.heap.size ≤ gb398)); have n3_ := Aside0.mk ((by rw [hg]; exact (below_size (bU HB.out)) : w.heap.size ≤ gb398)); clear HB; have HB := n0_; have BK398 := n1_; have GW398 := n2_; have GE398 := n3_; clear n0_ n1_ n2_ n3_; clear hb hbox hg) | ((with_reducible refine gate_dst (N := 4) rfl ?_); refine box_event ?hg (N := 4) ?hd (cs := #[.slice none 0 0, .slice none 0 0]) (t := 36) ?hr ?_; (case hd => rfl); (case hg => rfl); (case hr => first | (go_simp; done) | (go_simp; rfl)); intro gb399 hg w5 hbox hb; have n0_ := Aside0.mk (blk_below (kU BK398.out) hb); have n1_ := Aside0.mk (below_step (by repeat (first | (with_reducible first | exact HB.out | apply below_alloc | apply pw_below_drewN | apply below_drew1 | refine below_set ?_ GE398.out) | exact HB.out)) hb); have n2_ := Aside0.mk (hbox); have n3_ := Aside0.mk ((by rw [hg]; exact (below_size (by repeat (first | (with_reducible first | exact HB.out | apply below_alloc | apply pw_below_drewN | apply below_drew1 | refine below_set ?_ GE398.out) | exact HB.out))) : w.heap.size ≤ gb399)); have n4_ := Aside0.mk ((by rw [hg]; exact (below_size (by repeat (first | (with_reducible first | exact HB.out | apply below_alloc | apply pw_below_drewN | apply below_drew1 | refine below_set ?_ GE398.out) | exact HB.out))) : w.heap.size ≤ gb399)); have n5_ := Aside0.mk ((by rw [hg]; exact Nat.ne_of_lt (blk_lt (kU BK398.out)) : gb398 ≠ gb399)); have n6_ := Aside0.mk ((by rw [hg]; exact Nat.ne_of_gt (blk_lt (kU BK398.out)) : gb399 ≠ gb398)); clear BK398; clear HB; have BK398 := n0_; have HB := n1_; have BK399 := n2_; have GW399 := n3_; have GE399 := n4_; have NB398_399 := n5_; have NB399_398 := n6_; clear n0_ n1_ n2_ n3_ n4_ n5_ n6_; clear hb hbox hg))
  (try simp only [Act.put, List.setIfInBounds_toArray, List.set_cons_zero, List.set_cons_succ])
  go_cut [17] (fun v17 wc => ∃ (kq : Nat) (x17_2 : Bool), v17 = .bool x17_2 ∧ Aside0 (spec_EachOne.j0 kq a0 x17_2 l1_0 l1_1 = some (r1, r2, r3)) ∧ Aside0 (kq ≤ k) ∧ Aside0 (wc.heap[gb398]? = some (.cells #[(.slice A1_0 l1_0.length c1_0), (.slice A1_1 l1_1.length c1_1)] 36 (0, 0))) ∧ Aside0 (wc.heap[gb399]? = some (.cells #[(.slice none 0 0), (.slice none 0 0)] 36 (0, 0))) ∧ Aside0 (Below w.heap.size w wc))
  case first =>
    have H := HC3.out
    clear HC3
    replace H := Option.bind_eq_some_iff.mp H
    obtain ⟨t400, A60, H⟩ := H
    replace H : (if t400 = true then ((spec_l1Sign1.f a0).bind fun t401 => (spec_EachOne.j0 k a0 (!t401) l1_0 l1_1)) else (spec_EachOne.j0 k a0 true l1_0 l1_1)) = some (r1, r2, r3) := H
    have A6 := Aside0.mk A60
    clear A60
    by_cases c7 : t400 = true
    · subst c7
      have H1 : ((spec_l1Sign1.f a0).bind fun t401 => (spec_EachOne.j0 k a0 (!t401) l1_0 l1_1)) = some (r1, r2, r3) := by rw [if_pos rfl] at H; exact H
      clear H
      have H := H1
      clear H1
      replace H := Option.bind_eq_some_iff.mp H
      obtain ⟨t401, A80, H⟩ := H
      replace H : (spec_EachOne.j0 k a0 (!t401) l1_0 l1_1) = some (r1, r2, r3) := H
      have A8 := Aside0.mk A80
      clear A80
      have H' := Aside0.mk H
      clear H
      have hnb9 := NB398_399.out
      have hnc9 := NB399_398.out
      have hcz10_0 : w5.cell? ⟨gb398, 0, none⟩ = some (.slice A1_0 l1_0.length c1_0) := (blk_cell BK398.out 0).trans rfl
      have hcz10_1 : w5.cell? ⟨gb398, 1, none⟩ = some (.slice A1_1 l1_1.length c1_1) := (blk_cell BK398.out 1).trans rfl
      have hfz10_0 := blk_frozen BK398.out 0
      have hfz10_1 := blk_frozen BK398.out 1
      go_wp2_with (first | ((with_reducible refine gate_callee (f := 33) rfl ?_); refine goesL_ (some 11) rfl rfl Try.func33 (by kernel_rfl) rfl #[.agg #[.slice A1_0 l1_0.length c1_0, .slice A1_1 l1_1.length c1_1]] rfl (by (try simp only [List.map_toArray, List.map_cons, List.map_nil]); first | done | rfl | (simp only [List.length_drop, List.length_take]; rfl)) ?_; (with_reducible refine (spec_ArrayOk.calls k _ _ l1_0 _ _ l1_1 true _ ?side1 ?side2 ?side3 ?side4 A6.out).mono ?_); (case side1 => exact cU (Kd.C_below HR1_0.out HB.out)); (case side2 => exact HC1_0.out); (case side3 => exact cU (Kd.C_below HR1_1.out HB.out)); (case side4 => exact HC1_1.out); rintro e w11 ⟨rfl, hb⟩; refine ⟨_, rfl, ?_⟩; have n0_ := Aside0.mk (blk_below (kU BK398.out) hb); have n1_ := Aside0.mk (blk_below (kU BK399.out) hb); have n2_ := Aside0.mk (below_step (by repeat (first | (with_reducible first | exact HB.out | apply below_alloc | apply pw_below_drewN | apply below_drew1 | refine below_set ?_ GE398.out | refine below_set ?_ GE399.out) | exact HB.out)) hb); clear BK398; clear BK399; clear HB; have BK398 := n0_; have BK399 := n1_; have HB := n2_; clear n0_ n1_ n2_; (try clear hb); (try clear hb2); (try clear hk); (try clear hi)) | (go_at_call 62; (repeat rw [i64_w]); (with_reducible refine (spec_l1Sign1.calls a0 t401 _ A8.out).mono ?_); rintro e w' ⟨rfl, ⟨nd, rfl⟩⟩))
      go_meet
      case rel => exact ⟨_, (!t401), (by first | rfl | (simp; done) | (simp [*]; done)), H', ⟨by first | omega | exact Nat.le_refl _⟩, ⟨by (with_reducible repeat (first | refine blk_drewN ?_ _ | refine blk_drew ?_ | refine blk_alloc ?_ _)); exact BK398.out⟩, ⟨by (with_reducible repeat (first | refine blk_drewN ?_ _ | refine blk_drew ?_ | refine blk_alloc ?_ _)); exact BK399.out⟩, ⟨by repeat (first | (with_reducible first | exact HB.out | apply below_alloc | apply pw_below_drewN | apply below_drew1 | refine below_set ?_ GE398.out | refine below_set ?_ GE399.out) | exact HB.out)⟩⟩
    · replace c7 := Bool.eq_false_iff.mpr c7
      subst c7
      have H1 : (spec_EachOne.j0 k a0 true l1_0 l1_1) = some (r1, r2, r3) := by rw [if_neg (show ¬ (false = true) by decide)] at H; exact H
      clear H
      have H := H1
      clear H1
      have H' := Aside0.mk H
      clear H
      have hnb12 := NB398_399.out
      have hnc12 := NB399_398.out
      have hcz13_0 : w5.cell? ⟨gb398, 0, none⟩ = some (.slice A1_0 l1_0.length c1_0) := (blk_cell BK398.out 0).trans rfl
      have hcz13_1 : w5.cell? ⟨gb398, 1, none⟩ = some (.slice A1_1 l1_1.length c1_1) := (blk_cell BK398.out 1).trans rfl
      have hfz13_0 := blk_frozen BK398.out 0
      have hfz13_1 := blk_frozen BK398.out 1
      go_wp2_with (first | ((with_reducible refine gate_callee (f := 33) rfl ?_); refine goesL_ (some 11) rfl rfl Try.func33 (by kernel_rfl) rfl #[.agg #[.slice A1_0 l1_0.length c1_0, .slice A1_1 l1_1.length c1_1]] rfl (by (try simp only [List.map_toArray, List.map_cons, List.map_nil]); first | done | rfl | (simp only [List.length_drop, List.length_take]; rfl)) ?_; (with_reducible refine (spec_ArrayOk.calls k _ _ l1_0 _ _ l1_1 false _ ?side1 ?side2 ?side3 ?side4 A6.out).mono ?_); (case side1 => exact cU (Kd.C_below HR1_0.out HB.out)); (case side2 => exact HC1_0.out); (case side3 => exact cU (Kd.C_below HR1_1.out HB.out)); (case side4 => exact HC1_1.out); rintro e w14 ⟨rfl, hb⟩; refine ⟨_, rfl, ?_⟩; have n0_ := Aside0.mk (blk_below (kU BK398.out) hb); have n1_ := Aside0.mk (blk_below (kU BK399.out) hb); have n2_ := Aside0.mk (below_step (by repeat (first | (with_reducible first | exact HB.out | apply below_alloc | apply pw_below_drewN | apply below_drew1 | refine below_set ?_ GE398.out | refine below_set ?_ GE399.out) | exact HB.out)) hb); clear BK398; clear BK399; clear HB; have BK398 := n0_; have BK399 := n1_; have HB := n2_; clear n0_ n1_ n2_; (try clear hb); (try clear hb2); (try clear hk); (try clear hi)))
      go_meet
      case rel => exact ⟨_, (true), (by first | rfl | (simp; done) | (simp [*]; done)), H', ⟨by first | omega | exact Nat.le_refl _⟩, ⟨by (with_reducible repeat (first | refine blk_drewN ?_ _ | refine blk_drew ?_ | refine blk_alloc ?_ _)); exact BK398.out⟩, ⟨by (with_reducible repeat (first | refine blk_drewN ?_ _ | refine blk_drew ?_ | refine blk_alloc ?_ _)); exact BK399.out⟩, ⟨by repeat (first | (with_reducible first | exact HB.out | apply below_alloc | apply pw_below_drewN | apply below_drew1 | refine below_set ?_ GE398.out | refine below_set ?_ GE399.out) | exact HB.out)⟩⟩
  case rest =>
    clear HC3
    try clear c1
    try clear p2
    try clear c3
    try clear c7
    try clear c9
    try clear c12
    try clear hcz10_0
    try clear hcz10_1
    try clear hcz13_0
    try clear hcz13_1
    try clear hfz10_0
    try clear hfz10_1
    try clear hfz13_0
    try clear hfz13_1
    obtain ⟨kq, x17_2, rfl, HA, HJ2, BK398, BK399, HB⟩ := hcut
    cases kq with
    | zero => exact absurd HA.out (by simp [spec_EachOne.j0])
    | succ kj2 =>
      have H := HA.out
      clear HA
      simp only [spec_EachOne.j0] at H
      by_cases c15 : x17_2 = true
      · subst c15
        have H1 : (some (([] : List Int), ([] : List Int), 1)) = some (r1, r2, r3) := by rw [if_pos rfl] at H; exact H
        clear H
        have H := H1
        clear H1
        simp only [Option.some.injEq, Prod.mk.injEq] at H
        obtain ⟨rfl, rfl, rfl⟩ := H
        have hnb16 := NB399_398.out
        have hnc16 := NB398_399.out
        have hcz17_0 : wc.cell? ⟨gb399, 0, none⟩ = some (.slice none 0 0) := (blk_cell BK399.out 0).trans rfl
        have hcz17_1 : wc.cell? ⟨gb399, 1, none⟩ = some (.slice none 0 0) := (blk_cell BK399.out 1).trans rfl
        have hfz17_0 := blk_frozen BK399.out 0
        have hfz17_1 := blk_frozen BK399.out 1
        go_wp2
        refine bodyPost_ret (results_ct rfl _ _ gb399 36 #[.slice none 0 0, .slice none 0 0] (0, 0) _ rfl (by (with_reducible repeat (first | refine blk_drewN ?_ _ | refine blk_drew ?_ | refine blk_alloc ?_ _)); refine blk_put (cs := #[.slice none 0 0, .slice none 0 0]) ?_ 1 _ rfl; (with_reducible repeat (first | refine blk_drewN ?_ _ | refine blk_drew ?_ | refine blk_alloc ?_ _)); refine blk_put (cs := #[.slice none 0 0, .slice none 0 0]) ?_ 0 _ rfl; (with_reducible repeat (first | refine blk_drewN ?_ _ | refine blk_drew ?_ | refine blk_alloc ?_ _)); exact BK399.out) Try.underlying36 rfl (by kernel_rfl)) rfl ?_
        exact ⟨_, _, by first | rfl | (simp [errW_none, errW_some] <;> rfl) | (simp [*, errW_none, errW_some] <;> rfl), by first | exact Kd.R_nil _ _ _ _ _ | exact Kd.N_nil _ _ _ _ _ | exact Kd.V_nil _ _ _ _ _ | exact Kd.Q_nil _ _ _ _ _ | exact Kd.S_nil _ _ _ _ _, by first | exact Kd.R_nil _ _ _ _ _ | exact Kd.N_nil _ _ _ _ _ | exact Kd.V_nil _ _ _ _ _ | exact Kd.Q_nil _ _ _ _ _ | exact Kd.S_nil _ _ _ _ _, by repeat (first | (with_reducible first | exact HB.out | apply below_alloc | apply pw_below_drewN | apply below_drew1 | refine below_set ?_ GE398.out | refine below_set ?_ GE399.out) | exact HB.out)⟩
      · replace c15 := Bool.eq_false_iff.mpr c15
        subst c15
        have H1 : ((spec_l3Copy.f l1_0 l1_1).bind fun bt402 => (spec_EachOne.l0 kj2 a0 0 l1_0 l1_1 bt402.1 bt402.2)) = some (r1, r2, r3) := by rw [if_neg (show ¬ (false = true) by decide)] at H; exact H
        clear H
        have H := H1
        clear H1
        replace H := Option.bind_eq_some_iff.mp H
        obtain ⟨⟨t402, t405⟩, A180, H⟩ := H
        replace H : (spec_EachOne.l0 kj2 a0 0 l1_0 l1_1 t402 t405) = some (r1, r2, r3) := H
        have A18 := Aside0.mk A180
        clear A180
        have H' := Aside0.mk H
        clear H
        have hnb19 := NB398_399.out
        have hnc19 := NB399_398.out
        have hcz20_0 : wc.cell? ⟨gb398, 0, none⟩ = some (.slice A1_0 l1_0.length c1_0) := (blk_cell BK398.out 0).trans rfl
        have hcz20_1 : wc.cell? ⟨gb398, 1, none⟩ = some (.slice A1_1 l1_1.length c1_1) := (blk_cell BK398.out 1).trans rfl
        have hfz20_0 := blk_frozen BK398.out 0
        have hfz20_1 := blk_frozen BK398.out 1
        go_wp2_with (first | ((with_reducible refine gate_callee (f := 79) rfl ?_); refine goesL_ (some 20) rfl rfl Try.func79 (by kernel_rfl) rfl #[.agg #[.slice A1_0 l1_0.length c1_0, .slice A1_1 l1_1.length c1_1]] rfl (by (try simp only [List.map_toArray, List.map_cons, List.map_nil]); first | done | rfl | (simp only [List.length_drop, List.length_take]; rfl)) ?_; (with_reducible refine (spec_l3Copy.calls _ _ l1_0 _ _ l1_1 t402 t405 _ ?side1 ?side2 ?side3 ?side4 A18.out).mono ?_); (case side1 => exact cU (Kd.C_below HR1_0.out HB.out)); (case side2 => exact HC1_0.out); (case side3 => exact cU (Kd.C_below HR1_1.out HB.out)); (case side4 => exact HC1_1.out); rintro e w21 ⟨v403, v406, rfl, ho0, ho1, hb⟩; refine ⟨_, rfl, ?_⟩; have n0_ := Aside0.mk (Kd.R_lower ho0 (below_size (by repeat (first | (with_reducible first | exact HB.out | apply below_alloc | apply pw_below_drewN | apply below_drew1 | refine below_set ?_ GE398.out | refine below_set ?_ GE399.out) | exact HB.out)))); have n1_ := Aside0.mk (Kd.R_lower ho1 (below_size (by repeat (first | (with_reducible first | exact HB.out | apply below_alloc | apply pw_below_drewN | apply below_drew1 | refine below_set ?_ GE398.out | refine below_set ?_ GE399.out) | exact HB.out)))); have n2_ := Aside0.mk (blk_below (kU BK398.out) hb); have n3_ := Aside0.mk (blk_below (kU BK399.out) hb); have n4_ := Aside0.mk (below_step (by repeat (first | (with_reducible first | exact HB.out | apply below_alloc | apply pw_below_drewN | apply below_drew1 | refine below_set ?_ GE398.out | refine below_set ?_ GE399.out) | exact HB.out)) hb); clear BK398; clear BK399; clear HB; have HO404 := n0_; have HO407 := n1_; have BK398 := n2_; have BK399 := n3_; have HB := n4_; clear n0_ n1_ n2_ n3_ n4_; (try clear hb); (try clear hb2); (try clear hk); (try clear hi); (try clear ho0); (try clear ho1)) | ((with_reducible refine gate_dst (N := 6) rfl ?_); refine box_event ?hg (N := 6) ?hd (cs := #[.slice none 0 0, .slice none 0 0]) (t := 36) ?hr ?_; (case hd => rfl); (case hg => rfl); (case hr => first | (go_simp; done) | (go_simp; rfl)); intro gb408 hg w22 hbox hb; have n0_ := Aside0.mk (Kd.R_below (RU HO404.out) hb); have n1_ := Aside0.mk (Kd.R_below (RU HO407.out) hb); have n2_ := Aside0.mk (blk_below (kU BK398.out) hb); have n3_ := Aside0.mk (blk_below (kU BK399.out) hb); have n4_ := Aside0.mk (below_step (by repeat (first | (with_reducible first | exact HB.out | apply below_alloc | apply pw_below_drewN | apply below_drew1 | refine below_set ?_ GE398.out | refine below_set ?_ GE399.out) | exact HB.out)) hb); have n5_ := Aside0.mk (hbox); have n6_ := Aside0.mk ((by rw [hg]; exact (below_size (by repeat (first | (with_reducible first | exact HB.out | apply below_alloc | apply pw_below_drewN | apply below_drew1 | refine below_set ?_ GE398.out | refine below_set ?_ GE399.out) | exact HB.out))) : w.heap.size ≤ gb408)); have n7_ := Aside0.mk ((by rw [hg]; exact (below_size (by repeat (first | (with_reducible first | exact HB.out | apply below_alloc | apply pw_below_drewN | apply below_drew1 | refine below_set ?_ GE398.out | refine below_set ?_ GE399.out) | exact HB.out))) : w.heap.size ≤ gb408)); have n8_ := Aside0.mk ((by rw [hg]; exact Nat.ne_of_lt (blk_lt (kU BK398.out)) : gb398 ≠ gb408)); have n9_ := Aside0.mk ((by rw [hg]; exact Nat.ne_of_gt (blk_lt (kU BK398.out)) : gb408 ≠ gb398)); have n10_ := Aside0.mk ((by rw [hg]; exact Nat.ne_of_lt (blk_lt (kU BK399.out)) : gb399 ≠ gb408)); have n11_ := Aside0.mk ((by rw [hg]; exact Nat.ne_of_gt (blk_lt (kU BK399.out)) : gb408 ≠ gb399)); clear HO404; clear HO407; clear BK398; clear BK399; clear HB; have HO404 := n0_; have HO407 := n1_; have BK398 := n2_; have BK399 := n3_; have HB := n4_; have BK408 := n5_; have GW408 := n6_; have GE408 := n7_; have NB398_408 := n8_; have NB408_398 := n9_; have NB399_408 := n10_; have NB408_399 := n11_; clear n0_ n1_ n2_ n3_ n4_ n5_ n6_ n7_ n8_ n9_ n10_ n11_; clear hb hbox hg; obtain ⟨Ao23, co23, eo23⟩ := Kd.R_slice HO404.out; subst eo23; have hnb24 := NB408_398.out; have hnc24 := NB398_408.out; have hnb25 := NB408_399.out; have hnc25 := NB399_408.out; have hcz26_0 : w22.cell? ⟨gb408, 0, none⟩ = some (.slice none 0 0) := (blk_cell BK408.out 0).trans rfl; have hcz26_1 : w22.cell? ⟨gb408, 1, none⟩ = some (.slice none 0 0) := (blk_cell BK408.out 1).trans rfl; have hfz26_0 := blk_frozen BK408.out 0; have hfz26_1 := blk_frozen BK408.out 1; obtain ⟨Ao27, co27, eo27⟩ := Kd.R_slice HO407.out; subst eo27))
        go_loopg [7] kj2 (fun kq v7 w' => ∃ (x7_2 : Int) (x409000_2 : List Int) (x409001_2 : List Int) (u409000 : Value) (u409001 : Value), v7 = .int .i64 x7_2 ∧ Aside0 (spec_EachOne.l0 kq a0 x7_2 l1_0 l1_1 x409000_2 x409001_2 = some (r1, r2, r3)) ∧ Aside0 (kq ≤ kj2) ∧ Aside0 (Kd.R (Kd.int .i64) 3 w' w.heap.size (fun k_ => some k_ ≠ (u409001 : Value).ownBlock) u409000 x409000_2) ∧ Aside0 (Kd.R (Kd.int .i64) 3 w' w.heap.size (fun k_ => some k_ ≠ (u409000 : Value).ownBlock) u409001 x409001_2) ∧ Aside0 (w'.heap[gb398]? = some (.cells #[(.slice A1_0 l1_0.length c1_0), (.slice A1_1 l1_1.length c1_1)] 36 (0, 0))) ∧ Aside0 (w'.heap[gb399]? = some (.cells #[(.slice none 0 0), (.slice none 0 0)] 36 (0, 0))) ∧ Aside0 (w'.heap[gb408]? = some (.cells #[u409000, u409001] 36 (0, 0))) ∧ Aside0 (Below w.heap.size w w'))
        case atStart => exact ⟨(0), (t402), (t405), (.slice Ao23 t402.length co23), (.slice Ao27 t405.length co27), (by first | rfl | (simp; done) | (simp [*]; done)), H', ⟨Nat.le_refl _⟩, ⟨by (with_reducible repeat (first | apply Kd.R_alloc | apply Kd.R_drewN | apply Kd.R_drew)); exact Kd.R_mono (Kd.R_far (p := ⟨gb408, 1, none⟩) (Kd.R_far (p := ⟨gb408, 0, none⟩) (Kd.R_types HO404.out BK408.out (by decide)) (fun _ hk => hk.2) (.slice Ao23 t402.length co23)) (fun _ hk => hk.2) (.slice Ao27 t405.length co27)) (fun _ hk => hk.1)⟩, ⟨by (with_reducible repeat (first | apply Kd.R_alloc | apply Kd.R_drewN | apply Kd.R_drew)); exact Kd.R_mono (Kd.R_far (p := ⟨gb408, 1, none⟩) (Kd.R_far (p := ⟨gb408, 0, none⟩) (Kd.R_types HO407.out BK408.out (by decide)) (fun _ hk => hk.2) (.slice Ao23 t402.length co23)) (fun _ hk => hk.2) (.slice Ao27 t405.length co27)) (fun _ hk => hk.1)⟩, ⟨by (with_reducible repeat (first | refine blk_drewN ?_ _ | refine blk_drew ?_ | refine blk_alloc ?_ _)); refine blk_far ?_ NB398_408.out _; (with_reducible repeat (first | refine blk_drewN ?_ _ | refine blk_drew ?_ | refine blk_alloc ?_ _)); refine blk_far ?_ NB398_408.out _; (with_reducible repeat (first | refine blk_drewN ?_ _ | refine blk_drew ?_ | refine blk_alloc ?_ _)); exact BK398.out⟩, ⟨by (with_reducible repeat (first | refine blk_drewN ?_ _ | refine blk_drew ?_ | refine blk_alloc ?_ _)); refine blk_far ?_ NB399_408.out _; (with_reducible repeat (first | refine blk_drewN ?_ _ | refine blk_drew ?_ | refine blk_alloc ?_ _)); refine blk_far ?_ NB399_408.out _; (with_reducible repeat (first | refine blk_drewN ?_ _ | refine blk_drew ?_ | refine blk_alloc ?_ _)); exact BK399.out⟩, ⟨by (with_reducible repeat (first | refine blk_drewN ?_ _ | refine blk_drew ?_ | refine blk_alloc ?_ _)); refine blk_put (cs := #[.slice Ao23 t402.length co23, .slice none 0 0]) ?_ 1 _ rfl; (with_reducible repeat (first | refine blk_drewN ?_ _ | refine blk_drew ?_ | refine blk_alloc ?_ _)); refine blk_put (cs := #[.slice none 0 0, .slice none 0 0]) ?_ 0 _ rfl; (with_reducible repeat (first | refine blk_drewN ?_ _ | refine blk_drew ?_ | refine blk_alloc ?_ _)); exact BK408.out⟩, ⟨by repeat (first | (with_reducible first | exact HB.out | apply below_alloc | apply pw_below_drewN | apply below_drew1 | refine below_set ?_ GE398.out | refine below_set ?_ GE399.out | refine below_set ?_ GE408.out) | exact HB.out)⟩⟩
        case round =>
          clear H'
          try clear c1
          try clear c2
          try clear p2
          try clear c3
          try clear c7
          try clear c9
          try clear c12
          try clear c15
          try clear c16
          try clear c19
          try clear c24
          try clear c25
          try clear hcz10_0
          try clear hcz10_1
          try clear hcz13_0
          try clear hcz13_1
          try clear hcz17_0
          try clear hcz17_1
          try clear hcz20_0
          try clear hcz20_1
          try clear hcz26_0
          try clear hcz26_1
          try clear hfz10_0
          try clear hfz10_1
          try clear hfz13_0
          try clear hfz13_1
          try clear hfz17_0
          try clear hfz17_1
          try clear hfz20_0
          try clear hfz20_1
          try clear hfz26_0
          try clear hfz26_1
          try clear p2
          obtain ⟨x7_2, x409000_2, x409001_2, u409000, u409001, rfl, HA, HK2, HO_409000, HO_409001, BK398, BK399, BK408, HB⟩ := hrel
          cases gk with
          | zero => exact absurd HA.out (by simp [spec_EachOne.l0])
          | succ k2 =>
            have H := HA.out
            clear HA
            simp only [spec_EachOne.l0] at H
            by_cases c28 : x7_2 < (l1_1.length : Int)
            · rw [if_pos c28] at H
              have c28b0 : decide (x7_2 < (l1_1.length : Int)) = true := decide_eq_true c28
              clear c28
              by_cases c29 : 0 ≤ x7_2
              · rw [if_pos c29] at H
                have c29b0 : decide (0 ≤ x7_2) = true := decide_eq_true c29
                clear c29
                replace H := Option.bind_eq_some_iff.mp H
                obtain ⟨⟨t410, t411⟩, A300, H⟩ := H
                replace H : (if t411 = 0 then (if x7_2 < (x409001_2.length : Int) then (spec_EachOne.l0 k2 a0 (wrap64 (x7_2 + 1)) l1_0 l1_1 x409000_2 (x409001_2.set (x7_2 : Int).toNat t410)) else (none)) else (some (([] : List Int), ([] : List Int), t411))) = some (r1, r2, r3) := H
                have A30 := Aside0.mk A300
                clear A300
                by_cases c31 : t411 = 0
                · rw [if_pos c31] at H
                  have c31b0 : (t411 == 0) = true := beq_iff_eq.mpr c31
                  have c31b1 : (t411 != 0) = false := bne_eq_false_iff_eq.mpr c31
                  clear c31
                  by_cases c32 : x7_2 < (x409001_2.length : Int)
                  · rw [if_pos c32] at H
                    have c32b0 : decide (x7_2 < (x409001_2.length : Int)) = true := decide_eq_true c32
                    clear c32
                    obtain ⟨y412, hy412⟩ : ∃ y_ : List Int, y_ = (x409001_2.set (x7_2 : Int).toNat t410) := ⟨_, rfl⟩
                    replace H : (spec_EachOne.l0 k2 a0 (wrap64 (x7_2 + 1)) l1_0 l1_1 x409000_2 y412) = some (r1, r2, r3) := by first | (rw [hy412]; with_reducible exact H) | (have H2_ := (Option.bind_some _ _).symm.trans H; rw [hy412]; with_reducible exact H2_) | (have H2_ := (Option.bind_some _ _).symm.trans H; with_reducible exact H2_) | with_reducible exact H | (rw [hy412]; exact H) | exact H
                    have Ny412 := Aside0.mk hy412
                    clear hy412
                    have H' := Aside0.mk H
                    clear H
                    have hnb34 := NB398_399.out
                    have hnc34 := NB399_398.out
                    have hnb35 := NB398_408.out
                    have hnc35 := NB408_398.out
                    have hcz36_0 : wr.cell? ⟨gb398, 0, none⟩ = some (.slice A1_0 l1_0.length c1_0) := (blk_cell BK398.out 0).trans rfl
                    have hcz36_1 : wr.cell? ⟨gb398, 1, none⟩ = some (.slice A1_1 l1_1.length c1_1) := (blk_cell BK398.out 1).trans rfl
                    have hfz36_0 := blk_frozen BK398.out 0
                    have hfz36_1 := blk_frozen BK398.out 1
                    have p409 : 0 ≤ (x7_2 : Int) := of_decide_eq_true (by first | (with_reducible assumption) | assumption)
                    have q409 : x7_2 < (l1_1.length : Int) := of_decide_eq_true (by first | (with_reducible assumption) | assumption)
                    obtain ⟨ad409, e409, hx409_0⟩ := Kd.at_int HR1_1.out x7_2 p409 q409
                    cases e409
                    replace hx409_0 := (HB.out.cell (World.block_lt_of_cell? w _ hx409_0)).trans hx409_0
                    replace p409 := eq_true p409
                    replace q409 := eq_true q409
                    go_wp2_with (first | ((with_reducible refine gate_callee (f := 15) rfl ?_); refine goesL_ (some 35) rfl rfl Try.func15 (by kernel_rfl) rfl #[.int .i64 a0, .int .i64 (rd l1_1 x7_2)] rfl (by (try simp only [List.map_toArray, List.map_cons, List.map_nil]); first | done | rfl | (simp only [List.length_drop, List.length_take]; rfl)) ?_; (with_reducible refine (spec_One.calls k2 a0 (rd l1_1 x7_2) t410 t411 _ A30.out).mono ?_); rintro e w' ⟨rfl, ⟨nd, rfl⟩⟩; refine ⟨_, rfl, ?_⟩; (try (rw [drewN_self wr]; generalize hq_ : World.drewN wr _ = wr; have n0_ : Aside0 (Kd.R (Kd.int .i64) 3 wr w.heap.size (fun k_ => some k_ ≠ (u409001 : Value).ownBlock) u409000 x409000_2) := ⟨by rw [← hq_]; exact (RU HO_409000.out)⟩; have n1_ : Aside0 (Kd.R (Kd.int .i64) 3 wr w.heap.size (fun k_ => some k_ ≠ (u409000 : Value).ownBlock) u409001 x409001_2) := ⟨by rw [← hq_]; exact (RU HO_409001.out)⟩; have n2_ : Aside0 (wr.heap[gb398]? = some (.cells #[.slice A1_0 l1_0.length c1_0, .slice (some ad409) l1_1.length c1_1] 36 (0, 0))) := ⟨by rw [← hq_]; exact (kU BK398.out)⟩; have n3_ : Aside0 (wr.heap[gb399]? = some (.cells #[.slice none 0 0, .slice none 0 0] 36 (0, 0))) := ⟨by rw [← hq_]; exact (kU BK399.out)⟩; have n4_ : Aside0 (wr.heap[gb408]? = some (.cells #[u409000, u409001] 36 (0, 0))) := ⟨by rw [← hq_]; exact (kU BK408.out)⟩; have n5_ : Aside0 (Below w.heap.size w wr) := ⟨by rw [← hq_]; exact (by repeat (first | (with_reducible first | exact HB.out | apply below_alloc | apply pw_below_drewN | apply below_drew1 | refine below_set ?_ GE398.out | refine below_set ?_ GE399.out | refine below_set ?_ GE408.out) | exact HB.out))⟩; clear HO_409000 HO_409001 BK398 BK399 BK408 HB hq_; have HO_409000 := n0_; have HO_409001 := n1_; have BK398 := n2_; have BK399 := n3_; have BK408 := n4_; have HB := n5_; clear n0_ n1_ n2_ n3_ n4_ n5_)); have hnb37 := NB408_399.out; have hnc37 := NB399_408.out; have hcz38_0 : wr.cell? ⟨gb408, 0, none⟩ = some (u409000) := (blk_cell BK408.out 0).trans rfl; have hcz38_1 : wr.cell? ⟨gb408, 1, none⟩ = some (u409001) := (blk_cell BK408.out 1).trans rfl; have hfz38_0 := blk_frozen BK408.out 0; have hfz38_1 := blk_frozen BK408.out 1; have p33 : 0 ≤ (x7_2 : Int) := of_decide_eq_true (by first | (with_reducible assumption) | assumption); have q33 : (x7_2 : Int) < ((x409001_2.length : Int) : Int) := of_decide_eq_true (by first | (with_reducible assumption) | assumption); obtain ⟨go33, co33, eo33, gb33, gl33, cl33, HG33⟩ := Kd.R_form HO_409001.out (by omega); (first | cases eo33 | (injection eo33 with ea_ en_ ec_; (first | subst ea_ | (injection ea_ with ea_; subst ea_)); subst ec_; clear en_)); have GB33 := Aside0.mk gb33; have GG33 := Aside0.mk HG33; clear gb33 gl33 HG33; obtain ⟨hx33_0, hf33_0⟩ := Kd.R_celln 0 HO_409001.out (x7_2 : Int) p33 q33; replace p33 := eq_true p33; replace q33 := eq_true q33; obtain ⟨hy39_, hz39_⟩ := Kd.R_celln 0 HO_409001.out (x7_2 : Int) (of_decide_eq_true (by first | (with_reducible assumption) | assumption)) (of_decide_eq_true (by first | (with_reducible assumption) | assumption)); have HP39 := Kd.R_putg HO_409001.out (x7_2 : Int) t410) | ((with_reducible refine gate_store (t := 3) (p := 46) rfl ?_); refine store_event (t := 3) (p := 46) (v := ?vo_w40) (w1 := (wr.setCell ⟨go33, (x7_2 : Int).toNat, none⟩ (.int .i64 t410))) ?hg ?ho ?hn ?hr ?_; (case ho => rfl); (case hg => rfl); (case hn => rfl); (case hr => first | (go_simp; done) | (go_simp; rfl)); intro w40 hw; have hg : wr.grownBy w40 (some go33) := (by rw [hw]; exact HP39.2); have hp_ : Kd.R (Kd.int .i64) 3 w40 w.heap.size (fun k_ => some k_ ≠ (u409000 : Value).ownBlock) (.slice (some ⟨go33, 0, none⟩) x409001_2.length co33) y412 := (by rw [hw, Ny412.out]; exact HP39.1); clear HP39; have n0_ := Aside0.mk (Kd.R_after (v := (.slice (some ⟨go33, 0, none⟩) x409001_2.length co33)) (v1 := (.slice (some ⟨go33, 0, none⟩) x409001_2.length co33)) (ok := (fun _ => True)) (by (with_reducible repeat (first | apply Kd.R_alloc | apply Kd.R_drewN | apply Kd.R_drew)); exact Kd.R_mono HO_409000.out (fun _ hk => ⟨trivial, hk⟩)) hg (.inl rfl)); have n1_ := Aside0.mk (hp_); have n2_ := Aside0.mk (blk_grown (kU BK398.out) hg (Kd.R_ne HO_409001.out BK398.out (by decide))); have n3_ := Aside0.mk (blk_grown (kU BK399.out) hg (Kd.R_ne HO_409001.out BK399.out (by decide))); have n4_ := Aside0.mk (blk_grown (kU BK408.out) hg (Kd.R_ne HO_409001.out BK408.out (by decide))); have n5_ := Aside0.mk ((by rw [hw]; exact below_set (HB.out) GB33.out : Below w.heap.size w w40)); clear HO_409000; clear HO_409001; clear BK398; clear BK399; clear BK408; clear HB; have HO_409000 := n0_; have HO_409001 := n1_; have BK398 := n2_; have BK399 := n3_; have BK408 := n4_; have HB := n5_; clear n0_ n1_ n2_ n3_ n4_ n5_; clear hg hw hp_))
                    go_roundg k2
                    case measure => have := HJ2.out; have := HK2.out; omega
                    case rel => exact ⟨(wrap64 (x7_2 + 1)), (x409000_2), (y412), (u409000), (.slice (some ⟨go33, 0, none⟩) x409001_2.length co33), (by first | rfl | (simp; done) | (simp [*]; done)), H', ⟨by have := HJ2.out; have := HK2.out; omega⟩, ⟨by (with_reducible repeat (first | apply Kd.R_alloc | apply Kd.R_drewN | apply Kd.R_drew)); exact Kd.R_mono HO_409000.out (fun _ hk => hk.2)⟩, ⟨by (with_reducible repeat (first | apply Kd.R_alloc | apply Kd.R_drewN | apply Kd.R_drew)); exact HO_409001.out⟩, ⟨by (with_reducible repeat (first | refine blk_drewN ?_ _ | refine blk_drew ?_ | refine blk_alloc ?_ _)); exact BK398.out⟩, ⟨by (with_reducible repeat (first | refine blk_drewN ?_ _ | refine blk_drew ?_ | refine blk_alloc ?_ _)); exact BK399.out⟩, ⟨by (with_reducible repeat (first | refine blk_drewN ?_ _ | refine blk_drew ?_ | refine blk_alloc ?_ _)); exact BK408.out⟩, ⟨by repeat (first | (with_reducible first | exact HB.out | apply below_alloc | apply pw_below_drewN | apply below_drew1 | refine below_set ?_ GE398.out | refine below_set ?_ GE399.out | refine below_set ?_ GE408.out) | exact HB.out)⟩⟩
                  · rw [if_neg c32] at H
                    exact absurd H (by simp)
                · rw [if_neg c31] at H
                  have c31b0 : (t411 == 0) = false := beq_eq_false_iff_ne.mpr c31
                  have c31b1 : (t411 != 0) = true := bne_iff_ne.mpr c31
                  simp only [Option.some.injEq, Prod.mk.injEq] at H
                  obtain ⟨rfl, rfl, rfl⟩ := H
                  have hnb41 := NB398_399.out
                  have hnc41 := NB399_398.out
                  have hnb42 := NB398_408.out
                  have hnc42 := NB408_398.out
                  have hcz43_0 : wr.cell? ⟨gb398, 0, none⟩ = some (.slice A1_0 l1_0.length c1_0) := (blk_cell BK398.out 0).trans rfl
                  have hcz43_1 : wr.cell? ⟨gb398, 1, none⟩ = some (.slice A1_1 l1_1.length c1_1) := (blk_cell BK398.out 1).trans rfl
                  have hfz43_0 := blk_frozen BK398.out 0
                  have hfz43_1 := blk_frozen BK398.out 1
                  have p409 : 0 ≤ (x7_2 : Int) := of_decide_eq_true (by first | (with_reducible assumption) | assumption)
                  have q409 : x7_2 < (l1_1.length : Int) := of_decide_eq_true (by first | (with_reducible assumption) | assumption)
                  obtain ⟨ad409, e409, hx409_0⟩ := Kd.at_int HR1_1.out x7_2 p409 q409
                  cases e409
                  replace hx409_0 := (HB.out.cell (World.block_lt_of_cell? w _ hx409_0)).trans hx409_0
                  replace p409 := eq_true p409
                  replace q409 := eq_true q409
                  go_wp2_with (first | ((with_reducible refine gate_callee (f := 15) rfl ?_); refine goesL_ (some 35) rfl rfl Try.func15 (by kernel_rfl) rfl #[.int .i64 a0, .int .i64 (rd l1_1 x7_2)] rfl (by (try simp only [List.map_toArray, List.map_cons, List.map_nil]); first | done | rfl | (simp only [List.length_drop, List.length_take]; rfl)) ?_; (with_reducible refine (spec_One.calls k2 a0 (rd l1_1 x7_2) t410 t411 _ A30.out).mono ?_); rintro e w' ⟨rfl, ⟨nd, rfl⟩⟩; refine ⟨_, rfl, ?_⟩; (try (rw [drewN_self wr]; generalize hq_ : World.drewN wr _ = wr; have n0_ : Aside0 (Kd.R (Kd.int .i64) 3 wr w.heap.size (fun k_ => some k_ ≠ (u409001 : Value).ownBlock) u409000 x409000_2) := ⟨by rw [← hq_]; exact (RU HO_409000.out)⟩; have n1_ : Aside0 (Kd.R (Kd.int .i64) 3 wr w.heap.size (fun k_ => some k_ ≠ (u409000 : Value).ownBlock) u409001 x409001_2) := ⟨by rw [← hq_]; exact (RU HO_409001.out)⟩; have n2_ : Aside0 (wr.heap[gb398]? = some (.cells #[.slice A1_0 l1_0.length c1_0, .slice (some ad409) l1_1.length c1_1] 36 (0, 0))) := ⟨by rw [← hq_]; exact (kU BK398.out)⟩; have n3_ : Aside0 (wr.heap[gb399]? = some (.cells #[.slice none 0 0, .slice none 0 0] 36 (0, 0))) := ⟨by rw [← hq_]; exact (kU BK399.out)⟩; have n4_ : Aside0 (wr.heap[gb408]? = some (.cells #[u409000, u409001] 36 (0, 0))) := ⟨by rw [← hq_]; exact (kU BK408.out)⟩; have n5_ : Aside0 (Below w.heap.size w wr) := ⟨by rw [← hq_]; exact (by repeat (first | (with_reducible first | exact HB.out | apply below_alloc | apply pw_below_drewN | apply below_drew1 | refine below_set ?_ GE398.out | refine below_set ?_ GE399.out | refine below_set ?_ GE408.out) | exact HB.out))⟩; clear HO_409000 HO_409001 BK398 BK399 BK408 HB hq_; have HO_409000 := n0_; have HO_409001 := n1_; have BK398 := n2_; have BK399 := n3_; have BK408 := n4_; have HB := n5_; clear n0_ n1_ n2_ n3_ n4_ n5_)); have hnb44 := NB399_408.out; have hnc44 := NB408_399.out; have hcz45_0 : wr.cell? ⟨gb399, 0, none⟩ = some (.slice none 0 0) := (blk_cell BK399.out 0).trans rfl; have hcz45_1 : wr.cell? ⟨gb399, 1, none⟩ = some (.slice none 0 0) := (blk_cell BK399.out 1).trans rfl; have hfz45_0 := blk_frozen BK399.out 0; have hfz45_1 := blk_frozen BK399.out 1))
                  refine bodyPost_ret (results_ct rfl _ _ gb399 36 #[.slice none 0 0, .slice none 0 0] (0, 0) _ rfl (by (with_reducible repeat (first | refine blk_drewN ?_ _ | refine blk_drew ?_ | refine blk_alloc ?_ _)); refine blk_put (cs := #[.slice none 0 0, .slice none 0 0]) ?_ 1 _ rfl; (with_reducible repeat (first | refine blk_drewN ?_ _ | refine blk_drew ?_ | refine blk_alloc ?_ _)); refine blk_put (cs := #[.slice none 0 0, .slice none 0 0]) ?_ 0 _ rfl; (with_reducible repeat (first | refine blk_drewN ?_ _ | refine blk_drew ?_ | refine blk_alloc ?_ _)); exact BK399.out) Try.underlying36 rfl (by kernel_rfl)) rfl ?_
                  exact ⟨_, _, by first | rfl | (simp [errW_none, errW_some] <;> rfl) | (simp [*, errW_none, errW_some] <;> rfl), by first | exact Kd.R_nil _ _ _ _ _ | exact Kd.N_nil _ _ _ _ _ | exact Kd.V_nil _ _ _ _ _ | exact Kd.Q_nil _ _ _ _ _ | exact Kd.S_nil _ _ _ _ _, by first | exact Kd.R_nil _ _ _ _ _ | exact Kd.N_nil _ _ _ _ _ | exact Kd.V_nil _ _ _ _ _ | exact Kd.Q_nil _ _ _ _ _ | exact Kd.S_nil _ _ _ _ _, by repeat (first | (with_reducible first | exact HB.out | apply below_alloc | apply pw_below_drewN | apply below_drew1 | refine below_set ?_ GE398.out | refine below_set ?_ GE399.out | refine below_set ?_ GE408.out) | exact HB.out)⟩
              · rw [if_neg c29] at H
                exact absurd H (by simp)
            · rw [if_neg c28] at H
              have c28b0 : decide (x7_2 < (l1_1.length : Int)) = false := decide_eq_false c28
              clear c28
              simp only [Option.some.injEq, Prod.mk.injEq] at H
              obtain ⟨rfl, rfl, rfl⟩ := H
              have hnb46 := NB398_399.out
              have hnc46 := NB399_398.out
              have hnb47 := NB398_408.out
              have hnc47 := NB408_398.out
              have hcz48_0 : wr.cell? ⟨gb398, 0, none⟩ = some (.slice A1_0 l1_0.length c1_0) := (blk_cell BK398.out 0).trans rfl
              have hcz48_1 : wr.cell? ⟨gb398, 1, none⟩ = some (.slice A1_1 l1_1.length c1_1) := (blk_cell BK398.out 1).trans rfl
              have hfz48_0 := blk_frozen BK398.out 0
              have hfz48_1 := blk_frozen BK398.out 1
              have hnb49 := NB408_399.out
              have hnc49 := NB399_408.out
              have hcz50_0 : wr.cell? ⟨gb408, 0, none⟩ = some (u409000) := (blk_cell BK408.out 0).trans rfl
              have hcz50_1 : wr.cell? ⟨gb408, 1, none⟩ = some (u409001) := (blk_cell BK408.out 1).trans rfl
              have hfz50_0 := blk_frozen BK408.out 0
              have hfz50_1 := blk_frozen BK408.out 1
              obtain ⟨Ao51, co51, eo51⟩ := Kd.R_slice HO_409000.out
              subst eo51
              have hcz52_0 : wr.cell? ⟨gb399, 0, none⟩ = some (.slice none 0 0) := (blk_cell BK399.out 0).trans rfl
              have hcz52_1 : wr.cell? ⟨gb399, 1, none⟩ = some (.slice none 0 0) := (blk_cell BK399.out 1).trans rfl
              have hfz52_0 := blk_frozen BK399.out 0
              have hfz52_1 := blk_frozen BK399.out 1
              obtain ⟨Ao53, co53, eo53⟩ := Kd.R_slice HO_409001.out
              subst eo53
              go_wp2
              refine bodyPost_ret (results_ct rfl _ _ gb399 36 #[.slice Ao51 x409000_2.length co51, .slice Ao53 x409001_2.length co53] (0, 0) _ rfl (by (with_reducible repeat (first | refine blk_drewN ?_ _ | refine blk_drew ?_ | refine blk_alloc ?_ _)); refine blk_put (cs := #[.slice Ao51 x409000_2.length co51, .slice none 0 0]) ?_ 1 _ rfl; (with_reducible repeat (first | refine blk_drewN ?_ _ | refine blk_drew ?_ | refine blk_alloc ?_ _)); refine blk_put (cs := #[.slice none 0 0, .slice none 0 0]) ?_ 0 _ rfl; (with_reducible repeat (first | refine blk_drewN ?_ _ | refine blk_drew ?_ | refine blk_alloc ?_ _)); exact BK399.out) Try.underlying36 rfl (by kernel_rfl)) rfl ?_
              exact ⟨_, _, by first | rfl | (simp [errW_none, errW_some] <;> rfl) | (simp [*, errW_none, errW_some] <;> rfl), by (with_reducible repeat (first | apply Kd.R_alloc | apply Kd.R_drewN | apply Kd.R_drew)); exact Kd.R_mono (Kd.R_far (p := ⟨gb399, 1, none⟩) (Kd.R_far (p := ⟨gb399, 0, none⟩) (Kd.R_types HO_409000.out BK399.out (by decide)) (fun _ hk => hk.2) (.slice Ao51 x409000_2.length co51)) (fun _ hk => hk.2) (.slice Ao53 x409001_2.length co53)) (fun _ hk => hk.1), by (with_reducible repeat (first | apply Kd.R_alloc | apply Kd.R_drewN | apply Kd.R_drew)); exact Kd.R_mono (Kd.R_far (p := ⟨gb399, 1, none⟩) (Kd.R_far (p := ⟨gb399, 0, none⟩) (Kd.R_types HO_409001.out BK399.out (by decide)) (fun _ hk => hk.2) (.slice Ao51 x409000_2.length co51)) (fun _ hk => hk.2) (.slice Ao53 x409001_2.length co53)) (fun _ hk => hk.1), by repeat (first | (with_reducible first | exact HB.out | apply below_alloc | apply pw_below_drewN | apply below_drew1 | refine below_set ?_ GE398.out | refine below_set ?_ GE399.out | refine below_set ?_ GE408.out) | exact HB.out)⟩

end Go.Proofs.Ytlpgopiajkajjaa.PFnEachOne
