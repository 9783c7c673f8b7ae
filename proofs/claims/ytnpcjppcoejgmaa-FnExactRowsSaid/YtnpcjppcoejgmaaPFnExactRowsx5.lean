/- The walk of what a law reaches, for the law's row: written by a program of this session; it has no condition of its own. -/
import Derived.Test.YtnpcjppcoejgmaaPFnExactRowsx0
import Derived.Test.YtnpcjppcoejgmaaQ
import Derived.Test.YtnpcjppcoejgmaaPFnExactRowsx4
namespace Go.Proofs.Ytnpcjppcoejgmaa.PFnExactRows
open Go.RowKit Go.Proofs.YtnpcjppcoejgmaaW.PrintWords Go.Proofs.YtnpcjppcoejgmaaW.PrintLast Go.Proofs.YtnpcjppcoejgmaaW.PrintMore Go.Proofs.YtnpcjppcoejgmaaQ
attribute [local go_sem] max2_int min2_int max_two min_two max_three min_three max_four min_four   -- for this text's walks alone
set_option linter.unusedVariables false
set_option linter.unusedSimpArgs false

/-! ### laws_eqArrayS: function 9 -/
def laws_eqArrayS.l0 : Nat → List (S28) → List (S28) → Int → Option (Bool)
 | 0, _, _, _ => none
 | k + 1, x0, x1, x5 => if x5 < (x0.length : Int) then (if 0 ≤ x5 then (if x5 < (x1.length : Int) then ((laws_eqArray.f k ((rd_T28 x0 x5).f0) ((rd_T28 x0 x5).f1) ((rd_T28 x1 x5).f0) ((rd_T28 x1 x5).f1)).bind fun t204 => (if t204 = true then (laws_eqArrayS.l0 k x0 x1 (wrap64 (x5 + 1))) else (some false))) else (none)) else (none)) else (some true)
def laws_eqArrayS.f (k : Nat) (l0 : List (S28)) (l1 : List (S28)) : Option (Bool) := if (l0.length : Int) = (l1.length : Int) then (laws_eqArrayS.l0 k l0 l1 0) else (some false)
def laws_eqArrayS.T6 : Bool × List (List Nat × List Nat) := (true, [([], []), ([], []), ([0, 1], [0, 1]), ([2], [2]), ([], []), ([], []), ([4, 5], [4, 5]), ([6], [6]), ([3, 7], [3, 7]), ([8], [8])])
def laws_eqArrayS.B6 : List Nat := [0, 0, 3, 7, 0, 0, 48, 112, 255, 511]
theorem laws_eqArrayS.tab6 : rtab .any (opsOf Try.f9 6) = laws_eqArrayS.T6 := by kernel_rfl
theorem laws_eqArrayS.bits6 : waitsOk laws_eqArrayS.T6.2 laws_eqArrayS.B6 = true := by kernel_rfl
set_option maxHeartbeats 8000000 in
set_option maxRecDepth 100000 in
theorem laws_eqArrayS.calls (k : Nat) (A0 : Option Addr) (c0 : Nat) (l0 : List (S28)) (A1 : Option Addr) (c1 : Nat) (l1 : List (S28)) (r : Bool) (w : World) (hr0 : Kd.C k28 w A0 l0.length l0) (hc0 : l0.length ≤ c0) (hr1 : Kd.C k28 w A1 l1.length l1) (hc1 : l1.length ≤ c1) (h : laws_eqArrayS.f k l0 l1 = some r) :
  Calls Try.prog 9 #[.slice A0 l0.length c0, .slice A1 l1.length c1] w fun e w' => e = .returned (.bool r) ∧ Below w.heap.size w w' := by
 have hu28 := Try.underlying28
 have HR0 := Aside0.mk hr0
 have HC0 := Aside0.mk hc0
 clear hr0 hc0
 have HR1 := Aside0.mk hr1
 have HC1 := Aside0.mk hc1
 clear hr1 hc1
 have HB := Aside0.mk (Below.refl w.heap.size w)
 have H : (if (l0.length : Int) = (l1.length : Int) then (laws_eqArrayS.l0 k l0 l1 0) else (some false)) = some r := h
 clear h
 by_cases c3 : (l0.length : Int) = (l1.length : Int)
 ·
  rw [if_pos c3] at H
  have c3b0 : ((l0.length : Int) == (l1.length : Int)) = true := beq_iff_eq.mpr c3
  have c3b1 : ((l0.length : Int) != (l1.length : Int)) = false := bne_eq_false_iff_eq.mpr c3
  have c3b2 : (l0.length == l1.length) = true := by first | simpa using c3 | (simp at c3 ⊢; omega)
  clear c3
  have H' := Aside0.mk H
  clear H
  go_enter Try.func9, Try.ntmps9
  go_wp2
  go_loopg [5] k (fun kq v5 w' => ∃ (x5_1 : Int), v5 = .int .i64 x5_1 ∧ Aside0 (laws_eqArrayS.l0 kq l0 l1 x5_1 = some r) ∧ Aside0 (kq ≤ k) ∧ Aside0 (Below w.heap.size w w'))
  case atStart => exact ⟨(0), (by first | rfl | (simp; done) | (simp [*]; done)), H', ⟨Nat.le_refl _⟩, ⟨by exact bU HB.out⟩⟩
  case round =>
   clear H'
   try clear c1
   try clear p2
   try clear c3
   try clear c3b0
   try clear c3b1
   try clear c3b2
   obtain ⟨x5_1, rfl, HA, HK1, HB⟩ := hrel
   cases gk with
   | zero => exact absurd HA.out (by simp [laws_eqArrayS.l0])
   | succ k1 =>
    have H := HA.out
    clear HA
    simp only [laws_eqArrayS.l0] at H
    by_cases c4 : x5_1 < (l0.length : Int)
    ·
     rw [if_pos c4] at H
     have c4b0 : decide (x5_1 < (l0.length : Int)) = true := decide_eq_true c4
     clear c4
     by_cases c5 : 0 ≤ x5_1
     ·
      rw [if_pos c5] at H
      have c5b0 : decide (0 ≤ x5_1) = true := decide_eq_true c5
      clear c5
      by_cases c6 : x5_1 < (l1.length : Int)
      ·
       rw [if_pos c6] at H
       have c6b0 : decide (x5_1 < (l1.length : Int)) = true := decide_eq_true c6
       clear c6
       replace H := Option.bind_eq_some_iff.mp H
       obtain ⟨t204, A70, H⟩ := H
       replace H : (if t204 = true then (laws_eqArrayS.l0 k1 l0 l1 (wrap64 (x5_1 + 1))) else (some false)) = some r := H
       have A7 := Aside0.mk A70
       clear A70
       by_cases c8 : t204 = true
       ·
        subst c8
        have H1 : (laws_eqArrayS.l0 k1 l0 l1 (wrap64 (x5_1 + 1))) = some r := by rw [if_pos rfl] at H; exact H
        clear H
        have H := H1
        clear H1
        have H' := Aside0.mk H
        clear H
        try go_wp2
        replace HB := Aside0.mk (below_drew1 HB.out)
        have p202 : 0 ≤ (x5_1 : Int) := of_decide_eq_true (by first | (with_reducible assumption) | assumption)
        have q202 : x5_1 < (l0.length : Int) := of_decide_eq_true (by first | (with_reducible assumption) | assumption)
        obtain ⟨ad202, A202_0, c202_0, A202_1, c202_1, e202, hx202_0, hx202_1, hl202_0, hi202_0, hl202_1, hi202_1⟩ := at_T28 HR0.out x5_1 p202 q202
        have hw202_1 := hx202_1
        have hw202_0 := hx202_0
        cases e202
        replace hx202_0 := (HB.out.cell (World.block_lt_of_cell? w _ hx202_0)).trans hx202_0
        replace hx202_1 := (HB.out.cell (World.block_lt_of_cell? w _ hx202_1)).trans hx202_1
        have HR202_0 := Aside0.mk hi202_0
        have HC202_0 := Aside0.mk hl202_0
        clear hi202_0 hl202_0
        have HR202_1 := Aside0.mk hi202_1
        have HC202_1 := Aside0.mk hl202_1
        clear hi202_1 hl202_1
        replace p202 := eq_true p202
        replace q202 := eq_true q202
        have p203 : 0 ≤ (x5_1 : Int) := of_decide_eq_true (by first | (with_reducible assumption) | assumption)
        have q203 : x5_1 < (l1.length : Int) := of_decide_eq_true (by first | (with_reducible assumption) | assumption)
        obtain ⟨ad203, A203_0, c203_0, A203_1, c203_1, e203, hx203_0, hx203_1, hl203_0, hi203_0, hl203_1, hi203_1⟩ := at_T28 HR1.out x5_1 p203 q203
        have hw203_1 := hx203_1
        have hw203_0 := hx203_0
        cases e203
        replace hx203_0 := (HB.out.cell (World.block_lt_of_cell? w _ hx203_0)).trans hx203_0
        replace hx203_1 := (HB.out.cell (World.block_lt_of_cell? w _ hx203_1)).trans hx203_1
        have HR203_0 := Aside0.mk hi203_0
        have HC203_0 := Aside0.mk hl203_0
        clear hi203_0 hl203_0
        have HR203_1 := Aside0.mk hi203_1
        have HC203_1 := Aside0.mk hl203_1
        clear hi203_1 hl203_1
        replace p203 := eq_true p203
        replace q203 := eq_true q203
        refine start_ (n := 10) (S := fun w' => w'.cell? (ad202.add ((x5_1).toNat * 2)) = some (.slice A202_0 ((rd_T28 l0 x5_1).f0).length c202_0) ∧ w'.cell? ⟨(ad202.add ((x5_1).toNat * 2)).block, (ad202.add ((x5_1).toNat * 2)).off + 1, none⟩ = some (.slice A202_1 ((rd_T28 l0 x5_1).f1).length c202_1) ∧ w'.cell? (ad203.add ((x5_1).toNat * 2)) = some (.slice A203_0 ((rd_T28 l1 x5_1).f0).length c203_0) ∧ w'.cell? ⟨(ad203.add ((x5_1).toNat * 2)).block, (ad203.add ((x5_1).toNat * 2)).off + 1, none⟩ = some (.slice A203_1 ((rd_T28 l1 x5_1).f1).length c203_1)) (ds := []) #[false, false, false, false, false, false, false, false, false, false] (by kernel_rfl) rfl rfl ⟨((HB.out.cell (World.block_lt_of_cell? w _ hw202_0)).trans hw202_0), ((HB.out.cell (World.block_lt_of_cell? w _ hw202_1)).trans hw202_1), ((HB.out.cell (World.block_lt_of_cell? w _ hw203_0)).trans hw203_0), ((HB.out.cell (World.block_lt_of_cell? w _ hw203_1)).trans hw203_1)⟩ (fun hHeld => ?_); refine with_tabW laws_eqArrayS.tab6 laws_eqArrayS.bits6 (fun HT_ HW_ => ?_)
        generalize wr.drew = w9 at HB HR202_0 HR202_1 HR203_0 HR203_1 hx202_0 hx202_1 hx203_0 hx203_1 hHeld ⊢
        refine pure_ (i := 0) (N := some 17) (v := ?_) (a' := ?_) #[true, false, false, false, false, false, false, false, false, false] rfl rfl (any_of HT_.out (by kernel_rfl)) (fun _ _ _ h => h) (Or.inl ⟨by rfl, ?_⟩) ?_ ?_
        rotate_left
        ·
         intro w'
         go_simp
         with_reducible rfl
        rotate_left
        ·
         simp only [Act.put, List.setIfInBounds_toArray, List.set_cons_zero, List.set_cons_succ, i64_w, i32_w]
         rfl
        refine pure_ (i := 1) (N := some 18) (v := ?_) (a' := ?_) #[true, true, false, false, false, false, false, false, false, false] rfl rfl (any_of HT_.out (by kernel_rfl)) (fun _ _ _ h => h) (Or.inl ⟨by rfl, ?_⟩) ?_ ?_
        rotate_left
        ·
         intro w'
         go_simp
         with_reducible rfl
        rotate_left
        ·
         simp only [Act.put, List.setIfInBounds_toArray, List.set_cons_zero, List.set_cons_succ, i64_w, i32_w]
         rfl
        refine pure_ (i := 2) (N := some 19) (v := ?_) (a' := ?_) #[true, true, true, false, false, false, false, false, false, false] rfl rfl (any_of HT_.out (by kernel_rfl)) (fun _ _ _ h => h) (Or.inl ⟨by rfl, ?_⟩) ?_ ?_
        rotate_left
        ·
         intro w'
         go_simp
         with_reducible rfl
        rotate_left
        ·
         simp only [Act.put, List.setIfInBounds_toArray, List.set_cons_zero, List.set_cons_succ, i64_w, i32_w]
         rfl
        refine pure_ (i := 4) (N := some 21) (v := ?_) (a' := ?_) #[true, true, true, false, true, false, false, false, false, false] rfl rfl (any_of HT_.out (by kernel_rfl)) (fun _ _ _ h => h) (Or.inl ⟨by rfl, ?_⟩) ?_ ?_
        rotate_left
        ·
         intro w'
         go_simp
         with_reducible rfl
        rotate_left
        ·
         simp only [Act.put, List.setIfInBounds_toArray, List.set_cons_zero, List.set_cons_succ, i64_w, i32_w]
         rfl
        refine pure_ (i := 5) (N := some 22) (v := ?_) (a' := ?_) #[true, true, true, false, true, true, false, false, false, false] rfl rfl (any_of HT_.out (by kernel_rfl)) (fun _ _ _ h => h) (Or.inl ⟨by rfl, ?_⟩) ?_ ?_
        rotate_left
        ·
         intro w'
         go_simp
         with_reducible rfl
        rotate_left
        ·
         simp only [Act.put, List.setIfInBounds_toArray, List.set_cons_zero, List.set_cons_succ, i64_w, i32_w]
         rfl
        refine pure_ (i := 6) (N := some 23) (v := ?_) (a' := ?_) #[true, true, true, false, true, true, true, false, false, false] rfl rfl (any_of HT_.out (by kernel_rfl)) (fun _ _ _ h => h) (Or.inl ⟨by rfl, ?_⟩) ?_ ?_
        rotate_left
        ·
         intro w'
         go_simp
         with_reducible rfl
        rotate_left
        ·
         simp only [Act.put, List.setIfInBounds_toArray, List.set_cons_zero, List.set_cons_succ, i64_w, i32_w]
         rfl
        refine take_ (i := 3) (N := some 20) (v := ?_) (a' := ?_) #[true, true, true, true, true, true, true, false, false, false] rfl rfl (take_ofW HT_.out HW_.out (by kernel_rfl)) (fun _ _ _ h => h) (Or.inl ⟨by rfl, ?_⟩) hHeld ?_ ?_
        rotate_left
        ·
         rintro w' ⟨s0, s1, s2, s3⟩
         go_simp
         with_reducible rfl
        rotate_left
        ·
         simp only [Act.put, List.setIfInBounds_toArray, List.set_cons_zero, List.set_cons_succ, i64_w, i32_w]
         rfl
        refine take_ (i := 7) (N := some 24) (v := ?_) (a' := ?_) #[true, true, true, true, true, true, true, true, false, false] rfl rfl (take_ofW HT_.out HW_.out (by kernel_rfl)) (fun _ _ _ h => h) (Or.inl ⟨by rfl, ?_⟩) hHeld ?_ ?_
        rotate_left
        ·
         rintro w' ⟨s0, s1, s2, s3⟩
         go_simp
         with_reducible rfl
        rotate_left
        ·
         simp only [Act.put, List.setIfInBounds_toArray, List.set_cons_zero, List.set_cons_succ, i64_w, i32_w]
         rfl
        refine one_ (i := 8) (N := some 25) #[true, true, true, true, true, true, true, true, true, false] rfl rfl (one_of HT_.out (by kernel_rfl)) (by decide) (fun K hK => ?_)
        refine goes_ Try.func10 (by kernel_rfl) rfl #[.agg #[.slice A202_0 ((rd_T28 l0 x5_1).f0).length c202_0, .slice A202_1 ((rd_T28 l0 x5_1).f1).length c202_1], .agg #[.slice A203_0 ((rd_T28 l1 x5_1).f0).length c203_0, .slice A203_1 ((rd_T28 l1 x5_1).f1).length c203_1]] (by rfl) rfl rfl lU ?_
        with_reducible refine (laws_eqArray.calls k1 _ _ ((rd_T28 l0 x5_1).f0) _ _ ((rd_T28 l0 x5_1).f1) _ _ ((rd_T28 l1 x5_1).f0) _ _ ((rd_T28 l1 x5_1).f1) true _ ?side1 ?side2 ?side3 ?side4 ?side5 ?side6 ?side7 ?side8 A7.out).mono ?_
        (case side1 => exact cU (Kd.C_below HR202_0.out HB.out))
        (case side2 => exact HC202_0.out)
        (case side3 => exact cU (Kd.C_below HR202_1.out HB.out))
        (case side4 => exact HC202_1.out)
        (case side5 => exact cU (Kd.C_below HR203_0.out HB.out))
        (case side6 => exact HC203_0.out)
        (case side7 => exact cU (Kd.C_below HR203_1.out HB.out))
        (case side8 => exact HC203_1.out)
        rintro e w10 ⟨rfl, hb⟩
        refine ⟨_, rfl, ?_⟩
        replace HB := Aside0.mk (below_step (bU HB.out) hb)
        (try clear hb)
        (try clear hb2)
        (try clear hk)
        (try clear hi)
        refine hK.out _ _ ⟨((HB.out.cell (World.block_lt_of_cell? w _ hw202_0)).trans hw202_0), ((HB.out.cell (World.block_lt_of_cell? w _ hw202_1)).trans hw202_1), ((HB.out.cell (World.block_lt_of_cell? w _ hw203_0)).trans hw203_0), ((HB.out.cell (World.block_lt_of_cell? w _ hw203_1)).trans hw203_1)⟩ (fun hHeld => ?_)
        clear hK K
        refine norm_ (a' := ?_) ?_ ?_
        rotate_left
        ·
         show Act.put _ (some 25) _ = _
         simp only [Act.put, List.setIfInBounds_toArray, List.set_cons_zero, List.set_cons_succ, i64_w, i32_w]
         rfl
        refine pure_ (i := 9) (N := some 26) (v := ?_) (a' := ?_) #[true, true, true, true, true, true, true, true, true, true] rfl rfl (any_of HT_.out (by kernel_rfl)) (fun _ _ _ h => h) (Or.inl ⟨by rfl, ?_⟩) ?_ ?_
        rotate_left
        ·
         intro w'
         go_simp
         with_reducible rfl
        rotate_left
        ·
         simp only [Act.put, List.setIfInBounds_toArray, List.set_cons_zero, List.set_cons_succ, i64_w, i32_w]
         rfl
        refine done_ (done_of HT_.out (by kernel_rfl)) ?_
        try go_wp2
        go_roundg k1
        case measure => have := HK1.out; omega
        case rel => exact ⟨(wrap64 (x5_1 + 1)), (by first | rfl | (simp; done) | (simp [*]; done)), H', ⟨by have := HK1.out; omega⟩, ⟨by exact bU HB.out⟩⟩
       ·
        replace c8 := Bool.eq_false_iff.mpr c8
        subst c8
        have H1 : (some false) = some r := by rw [if_neg (show ¬ (false = true) by decide)] at H; exact H
        clear H
        have H := H1
        clear H1
        obtain rfl := Option.some.inj H
        try go_wp2
        replace HB := Aside0.mk (below_drew1 HB.out)
        have p202 : 0 ≤ (x5_1 : Int) := of_decide_eq_true (by first | (with_reducible assumption) | assumption)
        have q202 : x5_1 < (l0.length : Int) := of_decide_eq_true (by first | (with_reducible assumption) | assumption)
        obtain ⟨ad202, A202_0, c202_0, A202_1, c202_1, e202, hx202_0, hx202_1, hl202_0, hi202_0, hl202_1, hi202_1⟩ := at_T28 HR0.out x5_1 p202 q202
        have hw202_1 := hx202_1
        have hw202_0 := hx202_0
        cases e202
        replace hx202_0 := (HB.out.cell (World.block_lt_of_cell? w _ hx202_0)).trans hx202_0
        replace hx202_1 := (HB.out.cell (World.block_lt_of_cell? w _ hx202_1)).trans hx202_1
        have HR202_0 := Aside0.mk hi202_0
        have HC202_0 := Aside0.mk hl202_0
        clear hi202_0 hl202_0
        have HR202_1 := Aside0.mk hi202_1
        have HC202_1 := Aside0.mk hl202_1
        clear hi202_1 hl202_1
        replace p202 := eq_true p202
        replace q202 := eq_true q202
        have p203 : 0 ≤ (x5_1 : Int) := of_decide_eq_true (by first | (with_reducible assumption) | assumption)
        have q203 : x5_1 < (l1.length : Int) := of_decide_eq_true (by first | (with_reducible assumption) | assumption)
        obtain ⟨ad203, A203_0, c203_0, A203_1, c203_1, e203, hx203_0, hx203_1, hl203_0, hi203_0, hl203_1, hi203_1⟩ := at_T28 HR1.out x5_1 p203 q203
        have hw203_1 := hx203_1
        have hw203_0 := hx203_0
        cases e203
        replace hx203_0 := (HB.out.cell (World.block_lt_of_cell? w _ hx203_0)).trans hx203_0
        replace hx203_1 := (HB.out.cell (World.block_lt_of_cell? w _ hx203_1)).trans hx203_1
        have HR203_0 := Aside0.mk hi203_0
        have HC203_0 := Aside0.mk hl203_0
        clear hi203_0 hl203_0
        have HR203_1 := Aside0.mk hi203_1
        have HC203_1 := Aside0.mk hl203_1
        clear hi203_1 hl203_1
        replace p203 := eq_true p203
        replace q203 := eq_true q203
        refine start_ (n := 10) (S := fun w' => w'.cell? (ad202.add ((x5_1).toNat * 2)) = some (.slice A202_0 ((rd_T28 l0 x5_1).f0).length c202_0) ∧ w'.cell? ⟨(ad202.add ((x5_1).toNat * 2)).block, (ad202.add ((x5_1).toNat * 2)).off + 1, none⟩ = some (.slice A202_1 ((rd_T28 l0 x5_1).f1).length c202_1) ∧ w'.cell? (ad203.add ((x5_1).toNat * 2)) = some (.slice A203_0 ((rd_T28 l1 x5_1).f0).length c203_0) ∧ w'.cell? ⟨(ad203.add ((x5_1).toNat * 2)).block, (ad203.add ((x5_1).toNat * 2)).off + 1, none⟩ = some (.slice A203_1 ((rd_T28 l1 x5_1).f1).length c203_1)) (ds := []) #[false, false, false, false, false, false, false, false, false, false] (by kernel_rfl) rfl rfl ⟨((HB.out.cell (World.block_lt_of_cell? w _ hw202_0)).trans hw202_0), ((HB.out.cell (World.block_lt_of_cell? w _ hw202_1)).trans hw202_1), ((HB.out.cell (World.block_lt_of_cell? w _ hw203_0)).trans hw203_0), ((HB.out.cell (World.block_lt_of_cell? w _ hw203_1)).trans hw203_1)⟩ (fun hHeld => ?_); refine with_tabW laws_eqArrayS.tab6 laws_eqArrayS.bits6 (fun HT_ HW_ => ?_)
        generalize wr.drew = w11 at HB HR202_0 HR202_1 HR203_0 HR203_1 hx202_0 hx202_1 hx203_0 hx203_1 hHeld ⊢
        refine pure_ (i := 0) (N := some 17) (v := ?_) (a' := ?_) #[true, false, false, false, false, false, false, false, false, false] rfl rfl (any_of HT_.out (by kernel_rfl)) (fun _ _ _ h => h) (Or.inl ⟨by rfl, ?_⟩) ?_ ?_
        rotate_left
        ·
         intro w'
         go_simp
         with_reducible rfl
        rotate_left
        ·
         simp only [Act.put, List.setIfInBounds_toArray, List.set_cons_zero, List.set_cons_succ, i64_w, i32_w]
         rfl
        refine pure_ (i := 1) (N := some 18) (v := ?_) (a' := ?_) #[true, true, false, false, false, false, false, false, false, false] rfl rfl (any_of HT_.out (by kernel_rfl)) (fun _ _ _ h => h) (Or.inl ⟨by rfl, ?_⟩) ?_ ?_
        rotate_left
        ·
         intro w'
         go_simp
         with_reducible rfl
        rotate_left
        ·
         simp only [Act.put, List.setIfInBounds_toArray, List.set_cons_zero, List.set_cons_succ, i64_w, i32_w]
         rfl
        refine pure_ (i := 2) (N := some 19) (v := ?_) (a' := ?_) #[true, true, true, false, false, false, false, false, false, false] rfl rfl (any_of HT_.out (by kernel_rfl)) (fun _ _ _ h => h) (Or.inl ⟨by rfl, ?_⟩) ?_ ?_
        rotate_left
        ·
         intro w'
         go_simp
         with_reducible rfl
        rotate_left
        ·
         simp only [Act.put, List.setIfInBounds_toArray, List.set_cons_zero, List.set_cons_succ, i64_w, i32_w]
         rfl
        refine pure_ (i := 4) (N := some 21) (v := ?_) (a' := ?_) #[true, true, true, false, true, false, false, false, false, false] rfl rfl (any_of HT_.out (by kernel_rfl)) (fun _ _ _ h => h) (Or.inl ⟨by rfl, ?_⟩) ?_ ?_
        rotate_left
        ·
         intro w'
         go_simp
         with_reducible rfl
        rotate_left
        ·
         simp only [Act.put, List.setIfInBounds_toArray, List.set_cons_zero, List.set_cons_succ, i64_w, i32_w]
         rfl
        refine pure_ (i := 5) (N := some 22) (v := ?_) (a' := ?_) #[true, true, true, false, true, true, false, false, false, false] rfl rfl (any_of HT_.out (by kernel_rfl)) (fun _ _ _ h => h) (Or.inl ⟨by rfl, ?_⟩) ?_ ?_
        rotate_left
        ·
         intro w'
         go_simp
         with_reducible rfl
        rotate_left
        ·
         simp only [Act.put, List.setIfInBounds_toArray, List.set_cons_zero, List.set_cons_succ, i64_w, i32_w]
         rfl
        refine pure_ (i := 6) (N := some 23) (v := ?_) (a' := ?_) #[true, true, true, false, true, true, true, false, false, false] rfl rfl (any_of HT_.out (by kernel_rfl)) (fun _ _ _ h => h) (Or.inl ⟨by rfl, ?_⟩) ?_ ?_
        rotate_left
        ·
         intro w'
         go_simp
         with_reducible rfl
        rotate_left
        ·
         simp only [Act.put, List.setIfInBounds_toArray, List.set_cons_zero, List.set_cons_succ, i64_w, i32_w]
         rfl
        refine take_ (i := 3) (N := some 20) (v := ?_) (a' := ?_) #[true, true, true, true, true, true, true, false, false, false] rfl rfl (take_ofW HT_.out HW_.out (by kernel_rfl)) (fun _ _ _ h => h) (Or.inl ⟨by rfl, ?_⟩) hHeld ?_ ?_
        rotate_left
        ·
         rintro w' ⟨s0, s1, s2, s3⟩
         go_simp
         with_reducible rfl
        rotate_left
        ·
         simp only [Act.put, List.setIfInBounds_toArray, List.set_cons_zero, List.set_cons_succ, i64_w, i32_w]
         rfl
        refine take_ (i := 7) (N := some 24) (v := ?_) (a' := ?_) #[true, true, true, true, true, true, true, true, false, false] rfl rfl (take_ofW HT_.out HW_.out (by kernel_rfl)) (fun _ _ _ h => h) (Or.inl ⟨by rfl, ?_⟩) hHeld ?_ ?_
        rotate_left
        ·
         rintro w' ⟨s0, s1, s2, s3⟩
         go_simp
         with_reducible rfl
        rotate_left
        ·
         simp only [Act.put, List.setIfInBounds_toArray, List.set_cons_zero, List.set_cons_succ, i64_w, i32_w]
         rfl
        refine one_ (i := 8) (N := some 25) #[true, true, true, true, true, true, true, true, true, false] rfl rfl (one_of HT_.out (by kernel_rfl)) (by decide) (fun K hK => ?_)
        refine goes_ Try.func10 (by kernel_rfl) rfl #[.agg #[.slice A202_0 ((rd_T28 l0 x5_1).f0).length c202_0, .slice A202_1 ((rd_T28 l0 x5_1).f1).length c202_1], .agg #[.slice A203_0 ((rd_T28 l1 x5_1).f0).length c203_0, .slice A203_1 ((rd_T28 l1 x5_1).f1).length c203_1]] (by rfl) rfl rfl lU ?_
        with_reducible refine (laws_eqArray.calls k1 _ _ ((rd_T28 l0 x5_1).f0) _ _ ((rd_T28 l0 x5_1).f1) _ _ ((rd_T28 l1 x5_1).f0) _ _ ((rd_T28 l1 x5_1).f1) false _ ?side1 ?side2 ?side3 ?side4 ?side5 ?side6 ?side7 ?side8 A7.out).mono ?_
        (case side1 => exact cU (Kd.C_below HR202_0.out HB.out))
        (case side2 => exact HC202_0.out)
        (case side3 => exact cU (Kd.C_below HR202_1.out HB.out))
        (case side4 => exact HC202_1.out)
        (case side5 => exact cU (Kd.C_below HR203_0.out HB.out))
        (case side6 => exact HC203_0.out)
        (case side7 => exact cU (Kd.C_below HR203_1.out HB.out))
        (case side8 => exact HC203_1.out)
        rintro e w12 ⟨rfl, hb⟩
        refine ⟨_, rfl, ?_⟩
        replace HB := Aside0.mk (below_step (bU HB.out) hb)
        (try clear hb)
        (try clear hb2)
        (try clear hk)
        (try clear hi)
        refine hK.out _ _ ⟨((HB.out.cell (World.block_lt_of_cell? w _ hw202_0)).trans hw202_0), ((HB.out.cell (World.block_lt_of_cell? w _ hw202_1)).trans hw202_1), ((HB.out.cell (World.block_lt_of_cell? w _ hw203_0)).trans hw203_0), ((HB.out.cell (World.block_lt_of_cell? w _ hw203_1)).trans hw203_1)⟩ (fun hHeld => ?_)
        clear hK K
        refine norm_ (a' := ?_) ?_ ?_
        rotate_left
        ·
         show Act.put _ (some 25) _ = _
         simp only [Act.put, List.setIfInBounds_toArray, List.set_cons_zero, List.set_cons_succ, i64_w, i32_w]
         rfl
        refine pure_ (i := 9) (N := some 26) (v := ?_) (a' := ?_) #[true, true, true, true, true, true, true, true, true, true] rfl rfl (any_of HT_.out (by kernel_rfl)) (fun _ _ _ h => h) (Or.inl ⟨by rfl, ?_⟩) ?_ ?_
        rotate_left
        ·
         intro w'
         go_simp
         with_reducible rfl
        rotate_left
        ·
         simp only [Act.put, List.setIfInBounds_toArray, List.set_cons_zero, List.set_cons_succ, i64_w, i32_w]
         rfl
        refine done_ (done_of HT_.out (by kernel_rfl)) ?_
        try go_wp2
        go_ret
        exact ⟨by first | rfl | (simp [errW_none, errW_some] <;> rfl) | (simp [*, errW_none, errW_some] <;> rfl), by exact bU HB.out⟩
      ·
       rw [if_neg c6] at H
       exact absurd H (by simp)
     ·
      rw [if_neg c5] at H
      exact absurd H (by simp)
    ·
     rw [if_neg c4] at H
     have c4b0 : decide (x5_1 < (l0.length : Int)) = false := decide_eq_false c4
     clear c4
     obtain rfl := Option.some.inj H
     go_wp2
     go_ret
     exact ⟨by first | rfl | (simp [errW_none, errW_some] <;> rfl) | (simp [*, errW_none, errW_some] <;> rfl), by exact bU HB.out⟩
 ·
  rw [if_neg c3] at H
  have c3b0 : ((l0.length : Int) == (l1.length : Int)) = false := beq_eq_false_iff_ne.mpr c3
  have c3b1 : ((l0.length : Int) != (l1.length : Int)) = true := bne_iff_ne.mpr c3
  have c3b2 : (l0.length == l1.length) = false := by first | simpa using c3 | (simp at c3 ⊢; omega)
  obtain rfl := Option.some.inj H
  go_enter Try.func9, Try.ntmps9
  go_wp2
  go_ret
  exact ⟨by first | rfl | (simp [errW_none, errW_some] <;> rfl) | (simp [*, errW_none, errW_some] <;> rfl), by exact bU HB.out⟩

/-! ### laws_markIntS: function 25 -/
def laws_markIntS.l0 : Nat → List Int → Int → Int → Option (Int × List Int)
 | 0, _, _, _ => none
 | k + 1, x0, x1, x5 => if x5 < (x0.length : Int) then (if 0 ≤ x5 then (laws_markIntS.l0 k (x0.set (x5 : Int).toNat x1) (wrap64 (x1 + 1)) (wrap64 (x5 + 1))) else (none)) else (some (x1, x0))
def laws_markIntS.f (k : Nat) (l0 : List Int) (a1 : Int) : Option (Int × List Int) := laws_markIntS.l0 k l0 a1 0
set_option maxHeartbeats 8000000 in
set_option maxRecDepth 100000 in
theorem laws_markIntS.calls (k : Nat) (P0_ : Nat → Prop) (u9000_ : Value) (l0 : List Int) (a1 : Int) (r1 : Int) (r2 : List Int) (w0 w : World) (hB : Below w0.heap.size w0 w) (ho0 : Kd.R (Kd.int .i64) 3 w w0.heap.size P0_ u9000_ l0) (h : laws_markIntS.f k l0 a1 = some (r1, r2)) :
  Calls Try.prog 25 #[u9000_, .int .i64 a1] w fun e w' => e = .returned (.int .i64 r1) ∧ Kd.R (Kd.int .i64) 3 w' w0.heap.size (fun k_ => (P0_ k_ ∨ w.heap.size ≤ k_)) u9000_ r2 ∧ Below w0.heap.size w0 w' ∧ Kept w w' (fun k_ => P0_ k_) := by
 have HO0 := Aside0.mk (show Kd.R (Kd.int .i64) 3 w w0.heap.size (fun k_ => (P0_ k_ ∨ w.heap.size ≤ k_)) u9000_ l0 from Kd.R_mono ho0 (fun k_ hk => (.inl hk)))
 have HK := Aside0.mk (Kept.refl w (fun k_ => P0_ k_))
 have HW0 := Aside0.mk hB.size
 have HB := Aside0.mk hB
 clear hB
 have H : (laws_markIntS.l0 k l0 a1 0) = some (r1, r2) := h
 clear h
 have H' := Aside0.mk H
 clear H
 go_enter Try.func25, Try.ntmps25
 go_wp2
 go_loopg [1, 5] k (fun kq v1 v5 w' => ∃ (x0_1 : List Int) (x1_1 : Int) (x5_1 : Int), v1 = .int .i64 x1_1 ∧ v5 = .int .i64 x5_1 ∧ Aside0 (laws_markIntS.l0 kq x0_1 x1_1 x5_1 = some (r1, r2)) ∧ Aside0 (kq ≤ k) ∧ Aside0 (Kd.R (Kd.int .i64) 3 w' w0.heap.size (fun k_ => (P0_ k_ ∨ w.heap.size ≤ k_)) u9000_ x0_1) ∧ Aside0 (Kept w w' (fun k_ => P0_ k_)) ∧ Aside0 (Below w0.heap.size w0 w'))
 case atStart => exact ⟨(l0), (a1), (0), (by first | rfl | (simp; done) | (simp [*]; done)), (by first | rfl | (simp; done) | (simp [*]; done)), H', ⟨Nat.le_refl _⟩, ⟨by refine RU ?_; exact HO0.out⟩, ⟨by repeat (first | (with_reducible first | exact HK.out | apply Kept.alloc | apply Kept.drewN | apply Kept.drew) | exact HK.out)⟩, ⟨by exact bU HB.out⟩⟩
 case round =>
  clear H'
  try clear c2
  try clear p2
  obtain ⟨x0_1, x1_1, x5_1, rfl, rfl, HA, HK1, HO_0, HK, HB⟩ := hrel
  cases gk with
  | zero => exact absurd HA.out (by simp [laws_markIntS.l0])
  | succ k1 =>
   have H := HA.out
   clear HA
   simp only [laws_markIntS.l0] at H
   by_cases c3 : x5_1 < (x0_1.length : Int)
   ·
    rw [if_pos c3] at H
    have c3b0 : decide (x5_1 < (x0_1.length : Int)) = true := decide_eq_true c3
    clear c3
    by_cases c4 : 0 ≤ x5_1
    ·
     rw [if_pos c4] at H
     have c4b0 : decide (0 ≤ x5_1) = true := decide_eq_true c4
     clear c4
     obtain ⟨y205, hy205⟩ : ∃ y_ : List Int, y_ = (x0_1.set (x5_1 : Int).toNat x1_1) := ⟨_, rfl⟩
     replace H : (laws_markIntS.l0 k1 y205 (wrap64 (x1_1 + 1)) (wrap64 (x5_1 + 1))) = some (r1, r2) := by first | (rw [hy205]; with_reducible exact H) | (have H2_ := (Option.bind_some _ _).symm.trans H; rw [hy205]; with_reducible exact H2_) | (have H2_ := (Option.bind_some _ _).symm.trans H; with_reducible exact H2_) | with_reducible exact H | (rw [hy205]; exact H) | exact H
     have Ny205 := Aside0.mk hy205
     clear hy205
     have H' := Aside0.mk H
     clear H
     obtain ⟨Ao6, co6, eo6⟩ := Kd.R_slice HO_0.out
     subst eo6
     have p5 : 0 ≤ (x5_1 : Int) := of_decide_eq_true (by first | (with_reducible assumption) | assumption)
     have q5 : (x5_1 : Int) < ((x0_1.length : Int) : Int) := of_decide_eq_true (by first | (with_reducible assumption) | assumption)
     obtain ⟨go5, co5, eo5, gb5, gl5, cl5, HG5⟩ := Kd.R_form HO_0.out (by omega)
     (first | cases eo5 | (injection eo5 with ea_ en_ ec_; (first | subst ea_ | (injection ea_ with ea_; subst ea_)); subst ec_; clear en_))
     have GB5 := Aside0.mk gb5
     have GG5 := Aside0.mk HG5
     clear gb5 gl5 HG5
     have HMgo5 := Aside0.mk (show (P0_ go5 ∨ w.heap.size ≤ go5) from (HO_0.out.1 _ rfl))
     obtain ⟨hx5_0, hf5_0⟩ := Kd.R_celln 0 HO_0.out (x5_1 : Int) p5 q5
     replace p5 := eq_true p5
     replace q5 := eq_true q5
     have HP7 := Kd.R_putg HO_0.out (x5_1 : Int) x1_1
     go_wp2_with (first | ((with_reducible refine gate_store (t := 3) (p := 15) rfl ?_); refine store_event (t := 3) (p := 15) (v := ?vo_w8) (w1 := (wr.setCell ⟨go5, (x5_1 : Int).toNat, none⟩ (.int .i64 x1_1))) ?hg ?ho ?hn ?hr ?_; (case ho => rfl); (case hg => rfl); (case hn => rfl); (case hr => first | (go_simp; done) | (go_simp; rfl)); intro w8 hw; have hg : wr.grownBy w8 (some go5) := (by rw [hw]; exact HP7.2); have hp_ : Kd.R (Kd.int .i64) 3 w8 w0.heap.size (fun k_ => (P0_ k_ ∨ w.heap.size ≤ k_)) (.slice (some ⟨go5, 0, none⟩) x0_1.length co6) y205 := (by rw [hw, Ny205.out]; exact HP7.1); clear HP7; replace HB := Aside0.mk ((by rw [hw]; exact below_set (HB.out) GB5.out : Below w0.heap.size w0 w8)); replace HK := Aside0.mk (Kept.of_grown (S := (fun k_ => P0_ k_)) hg (by repeat (first | (with_reducible first | exact HK.out | apply Kept.alloc | apply Kept.drewN | apply Kept.drew) | exact HK.out)) (fun k_ e_ => (HO_0.out.1 k_ e_))); replace HO_0 := Aside0.mk (hp_); clear hg hw hp_))
     go_roundg k1
     case measure => have := HK1.out; omega
     case rel => exact ⟨(y205), (wrap64 (x1_1 + 1)), (wrap64 (x5_1 + 1)), (by first | rfl | (simp; done) | (simp [*]; done)), (by first | rfl | (simp; done) | (simp [*]; done)), H', ⟨by have := HK1.out; omega⟩, ⟨by refine RU ?_; exact HO_0.out⟩, ⟨by repeat (first | (with_reducible first | exact HK.out | apply Kept.alloc | apply Kept.drewN | apply Kept.drew) | exact HK.out)⟩, ⟨by exact bU HB.out⟩⟩
    ·
     rw [if_neg c4] at H
     exact absurd H (by simp)
   ·
    rw [if_neg c3] at H
    have c3b0 : decide (x5_1 < (x0_1.length : Int)) = false := decide_eq_false c3
    clear c3
    simp only [Option.some.injEq, Prod.mk.injEq] at H
    obtain ⟨rfl, rfl⟩ := H
    obtain ⟨Ao9, co9, eo9⟩ := Kd.R_slice HO_0.out
    subst eo9
    go_wp2
    go_ret
    exact ⟨by first | rfl | (simp [errW_none, errW_some] <;> rfl) | (simp [*, errW_none, errW_some] <;> rfl), by refine RU ?_; exact HO_0.out, by exact bU HB.out, by repeat (first | (with_reducible first | exact HK.out | apply Kept.alloc | apply Kept.drewN | apply Kept.drew) | exact HK.out)⟩

/-! ### laws_markArray: function 11 -/
def laws_markArray.f (k : Nat) (l0_0 : List Int) (l0_1 : List Int) (a1 : Int) : Option (Int × List Int × List Int) := (laws_markIntS.f k l0_0 a1).bind fun bt207 => ((laws_markIntS.f k l0_1 bt207.1).bind fun bt209 => (some (bt209.1, bt207.2, bt209.2)))
set_option maxHeartbeats 8000000 in
set_option maxRecDepth 100000 in
theorem laws_markArray.calls (k : Nat) (P0_0_ : Nat → Prop) (u9000_ : Value) (l0_0 : List Int) (P0_1_ : Nat → Prop) (u9001_ : Value) (l0_1 : List Int) (a1 : Int) (r1 : Int) (r2 : List Int) (r3 : List Int) (w0 w : World) (hB : Below w0.heap.size w0 w) (ho0_0 : Kd.R (Kd.int .i64) 3 w w0.heap.size P0_0_ u9000_ l0_0) (hp0_0_0_1 : ∀ k_, P0_0_ k_ → ¬ P0_1_ k_) (ho0_1 : Kd.R (Kd.int .i64) 3 w w0.heap.size P0_1_ u9001_ l0_1) (hp0_1_0_0 : ∀ k_, P0_1_ k_ → ¬ P0_0_ k_) (h : laws_markArray.f k l0_0 l0_1 a1 = some (r1, r2, r3)) :
  Calls Try.prog 11 #[.agg #[u9000_, u9001_], .int .i64 a1] w fun e w' => e = .returned (.int .i64 r1) ∧ Kd.R (Kd.int .i64) 3 w' w0.heap.size (fun k_ => ((P0_0_ k_ ∨ P0_1_ k_) ∨ w.heap.size ≤ k_)) u9000_ r2 ∧ Kd.R (Kd.int .i64) 3 w' w0.heap.size (fun k_ => ((P0_0_ k_ ∨ P0_1_ k_) ∨ w.heap.size ≤ k_)) u9001_ r3 ∧ Below w0.heap.size w0 w' ∧ Kept w w' (fun k_ => P0_0_ k_ ∨ P0_1_ k_) := by
 have hu28 := Try.underlying28
 have HO0_0 := Aside0.mk (show Kd.R (Kd.int .i64) 3 w w0.heap.size (fun k_ => ((P0_0_ k_ ∨ P0_1_ k_) ∨ w.heap.size ≤ k_) ∧ some k_ ≠ (u9001_ : Value).ownBlock) u9000_ l0_0 from Kd.R_mono ho0_0 (fun k_ hk => ⟨(.inl (.inl hk)), fun e_ => hp0_0_0_1 k_ hk (ho0_1.1 k_ e_.symm)⟩))
 have HO0_1 := Aside0.mk (show Kd.R (Kd.int .i64) 3 w w0.heap.size (fun k_ => ((P0_0_ k_ ∨ P0_1_ k_) ∨ w.heap.size ≤ k_) ∧ some k_ ≠ (u9000_ : Value).ownBlock) u9001_ l0_1 from Kd.R_mono ho0_1 (fun k_ hk => ⟨(.inl (.inr hk)), fun e_ => hp0_1_0_0 k_ hk (ho0_0.1 k_ e_.symm)⟩))
 have HK := Aside0.mk (Kept.refl w (fun k_ => P0_0_ k_ ∨ P0_1_ k_))
 have HW0 := Aside0.mk hB.size
 have HB := Aside0.mk hB
 clear hB
 have H : ((laws_markIntS.f k l0_0 a1).bind fun bt207 => ((laws_markIntS.f k l0_1 bt207.1).bind fun bt209 => (some (bt209.1, bt207.2, bt209.2)))) = some (r1, r2, r3) := h
 clear h
 replace H := Option.bind_eq_some_iff.mp H
 obtain ⟨⟨t207, t208⟩, A30, H⟩ := H
 replace H : ((laws_markIntS.f k l0_1 t207).bind fun bt209 => (some (bt209.1, t208, bt209.2))) = some (r1, r2, r3) := H
 have A3 := Aside0.mk A30
 clear A30
 replace H := Option.bind_eq_some_iff.mp H
 obtain ⟨⟨t209, t210⟩, A40, H⟩ := H
 replace H : (some (t209, t208, t210)) = some (r1, r2, r3) := H
 have A4 := Aside0.mk A40
 clear A40
 simp only [Option.some.injEq, Prod.mk.injEq] at H
 obtain ⟨rfl, rfl, rfl⟩ := H
 obtain ⟨Ao5, co5, eo5⟩ := Kd.R_slice HO0_0.out
 subst eo5
 obtain ⟨Ao6, co6, eo6⟩ := Kd.R_slice HO0_1.out
 subst eo6
 go_enter Try.func11, Try.ntmps11
 go_wp2_with (first | ((with_reducible refine gate_dst (N := 2) rfl ?_); refine box_event ?hg (N := 2) ?hd (cs := #[.slice Ao5 l0_0.length co5, .slice Ao6 l0_1.length co6]) (t := 28) ?hr ?_; (case hd => rfl); (case hg => rfl); (case hr => first | (go_simp; done) | (go_simp; rfl)); intro gb206 hg w7 hbox hb; replace HO0_0 := Aside0.mk (Kd.R_below (RU HO0_0.out) hb); replace HO0_1 := Aside0.mk (Kd.R_below (RU HO0_1.out) hb); have BK206 := Aside0.mk (hbox); have GW206 := Aside0.mk ((by rw [hg]; exact (by first | exact HK.out.1 | exact (show Kept w _ (fun k_ => P0_0_ k_ ∨ P0_1_ k_) from by repeat (first | (with_reducible first | exact HK.out | apply Kept.alloc | apply Kept.drewN | apply Kept.drew) | exact HK.out)).1) : w.heap.size ≤ gb206)); replace HK := Aside0.mk (Kept.below (S := (fun k_ => P0_0_ k_ ∨ P0_1_ k_)) (by repeat (first | (with_reducible first | exact HK.out | apply Kept.alloc | apply Kept.drewN | apply Kept.drew) | exact HK.out)) hb); have GE206 := Aside0.mk ((by rw [hg]; exact (below_size (bU HB.out)) : w0.heap.size ≤ gb206)); replace HB := Aside0.mk (below_step (bU HB.out) hb); clear hb hbox hg; have hcz8_0 : w7.cell? ⟨gb206, 0, none⟩ = some (.slice Ao5 l0_0.length co5) := (blk_cell BK206.out 0).trans rfl; have hcz8_1 : w7.cell? ⟨gb206, 1, none⟩ = some (.slice Ao6 l0_1.length co6) := (blk_cell BK206.out 1).trans rfl; have hfz8_0 := blk_frozen BK206.out 0; have hfz8_1 := blk_frozen BK206.out 1) | ((with_reducible refine gate_callee (f := 25) rfl ?_); refine goesL_ (some 8) rfl rfl Try.func25 (by kernel_rfl) rfl #[.slice Ao5 l0_0.length co5, .int .i64 a1] rfl lU ?_; (with_reducible refine (laws_markIntS.calls k (fun k_ => some k_ = (.slice Ao5 l0_0.length co5 : Value).ownBlock) (.slice Ao5 l0_0.length co5) l0_0 a1 t207 t208 w0 _ ?side1 ?side2 A3.out).mono ?_); (case side1 => exact bS1 HB.out GE206.out); (case side2 => exact Kd.R_tight rfl HO0_0.out); rintro e w9 ⟨rfl, hy0, hb, hkp⟩; refine ⟨_, rfl, ?_⟩; replace HO0_1 := Aside0.mk (Kd.R_mono (ok' := fun k_ => ((P0_0_ k_ ∨ P0_1_ k_) ∨ w.heap.size ≤ k_) ∧ some k_ ≠ (.slice Ao5 l0_0.length co5 : Value).ownBlock) (Kd.R_keptB (HO0_1.out) hkp (fun k_ hk_ hs_ => (hk_.2) hs_)) (fun k_ hk_ => ⟨hk_.1.1, hk_.1.2⟩)); replace BK206 := Aside0.mk (blk_kept (kU BK206.out) hkp (fun hs_ => (fun e_ => (Kd.R_ne HO0_0.out BK206.out (by decide)) e_) hs_)); replace HK := Aside0.mk (Kept.then_ (S := (fun k_ => P0_0_ k_ ∨ P0_1_ k_)) (by repeat (first | (with_reducible first | exact HK.out | apply Kept.alloc | apply Kept.drewN | apply Kept.drew | refine Kept.setCell ?_ (.inr GW206.out) _) | exact HK.out)) hkp (fun k_ hs_ => (fun e_ => (HO0_0.out.1 k_ e_.symm).1) hs_)); replace HO0_0 := Aside0.mk (Kd.R_reok rfl hy0 (fun k_ e_ => HO0_0.out.1 k_ e_)); replace HB := Aside0.mk (hb); (try clear hb); (try clear hkp); (try clear hy0); have hcz10_0 : w9.cell? ⟨gb206, 0, none⟩ = some (.slice Ao5 l0_0.length co5) := (blk_cell BK206.out 0).trans rfl; have hcz10_1 : w9.cell? ⟨gb206, 1, none⟩ = some (.slice Ao6 l0_1.length co6) := (blk_cell BK206.out 1).trans rfl; have hfz10_0 := blk_frozen BK206.out 0; have hfz10_1 := blk_frozen BK206.out 1) | ((with_reducible refine gate_callee (f := 25) rfl ?_); refine goesL_ (some 12) rfl rfl Try.func25 (by kernel_rfl) rfl #[.slice Ao6 l0_1.length co6, .int .i64 t207] rfl lU ?_; (with_reducible refine (laws_markIntS.calls k (fun k_ => some k_ = (.slice Ao6 l0_1.length co6 : Value).ownBlock) (.slice Ao6 l0_1.length co6) l0_1 t207 t209 t210 w0 _ ?side1 ?side2 A4.out).mono ?_); (case side1 => exact bS1 HB.out GE206.out); (case side2 => exact Kd.R_tight rfl HO0_1.out); rintro e w11 ⟨rfl, hy0, hb, hkp⟩; refine ⟨_, rfl, ?_⟩; replace HO0_0 := Aside0.mk (Kd.R_mono (ok' := fun k_ => ((P0_0_ k_ ∨ P0_1_ k_) ∨ w.heap.size ≤ k_) ∧ some k_ ≠ (.slice Ao6 l0_1.length co6 : Value).ownBlock) (Kd.R_keptB (HO0_0.out) hkp (fun k_ hk_ hs_ => (hk_.2) hs_)) (fun k_ hk_ => ⟨hk_.1.1, hk_.1.2⟩)); replace BK206 := Aside0.mk (blk_kept (kU BK206.out) hkp (fun hs_ => (fun e_ => (Kd.R_ne HO0_1.out BK206.out (by decide)) e_) hs_)); replace HK := Aside0.mk (Kept.then_ (S := (fun k_ => P0_0_ k_ ∨ P0_1_ k_)) (by repeat (first | (with_reducible first | exact HK.out | apply Kept.alloc | apply Kept.drewN | apply Kept.drew | refine Kept.setCell ?_ (.inr GW206.out) _) | exact HK.out)) hkp (fun k_ hs_ => (fun e_ => (HO0_1.out.1 k_ e_.symm).1) hs_)); replace HO0_1 := Aside0.mk (Kd.R_reok rfl hy0 (fun k_ e_ => HO0_1.out.1 k_ e_)); replace HB := Aside0.mk (hb); (try clear hb); (try clear hkp); (try clear hy0)))
 go_ret
 exact ⟨by first | rfl | (simp [errW_none, errW_some] <;> rfl) | (simp [*, errW_none, errW_some] <;> rfl), by refine RU ?_; exact Kd.R_mono HO0_0.out (fun _ hk => hk.1), by refine RU ?_; exact Kd.R_mono HO0_1.out (fun _ hk => hk.1), by exact bS1 HB.out GE206.out, by repeat (first | (with_reducible first | exact HK.out | apply Kept.alloc | apply Kept.drewN | apply Kept.drew | refine Kept.setCell ?_ (.inr GW206.out) _) | exact HK.out)⟩

/-! ### laws_markArrayS: function 12, walked by hand -/
theorem T28_lend {W : World} {base : Nat} {P : Nat → Prop} {ad : Addr} {n cap : Nat} {xs : List S28} (h : Kd.S k28 28 W base P (.slice (some ad) n cap) xs) (i : Int) (h0 : 0 ≤ i) (h1 : i < n) :
    ∃ A0 c0 A1 c1, W.cell? (ad.add (i.toNat * 2)) = some (.slice A0 (rd_T28 xs i).f0.length c0) ∧ W.cell? ⟨(ad.add (i.toNat * 2)).block, (ad.add (i.toNat * 2)).off + 1, none⟩ = some (.slice A1 (rd_T28 xs i).f1.length c1) ∧
      (Kd.int .i64).R 3 W base (fun k_ => some k_ = (.slice A0 (rd_T28 xs i).f0.length c0 : Value).ownBlock) (.slice A0 (rd_T28 xs i).f0.length c0) (rd_T28 xs i).f0 ∧
      (∀ k_, some k_ = (.slice A0 (rd_T28 xs i).f0.length c0 : Value).ownBlock → P k_) ∧ (∀ k_, some k_ = (.slice A1 (rd_T28 xs i).f1.length c1 : Value).ownBlock → P k_) ∧
      ∀ (W1 : World) (y0 : List Int), Kept W W1 (fun k_ => some k_ = (.slice A0 (rd_T28 xs i).f0.length c0 : Value).ownBlock) → (Kd.int .i64).R 3 W1 base (fun k_ => (some k_ = (.slice A0 (rd_T28 xs i).f0.length c0 : Value).ownBlock ∨ W.heap.size ≤ k_)) (.slice A0 (rd_T28 xs i).f0.length c0) y0 →
        W1.cell? (ad.add (i.toNat * 2)) = some (.slice A0 (rd_T28 xs i).f0.length c0) ∧ W1.cell? ⟨(ad.add (i.toNat * 2)).block, (ad.add (i.toNat * 2)).off + 1, none⟩ = some (.slice A1 (rd_T28 xs i).f1.length c1) ∧
        (Kd.int .i64).R 3 W1 base (fun k_ => some k_ = (.slice A1 (rd_T28 xs i).f1.length c1 : Value).ownBlock) (.slice A1 (rd_T28 xs i).f1.length c1) (rd_T28 xs i).f1 ∧
        ∀ (W2 : World) (y1 : List Int), Kept W1 W2 (fun k_ => some k_ = (.slice A1 (rd_T28 xs i).f1.length c1 : Value).ownBlock) → (Kd.int .i64).R 3 W2 base (fun k_ => (some k_ = (.slice A1 (rd_T28 xs i).f1.length c1 : Value).ownBlock ∨ W1.heap.size ≤ k_)) (.slice A1 (rd_T28 xs i).f1.length c1) y1 →
          Kd.S k28 28 W2 base P (.slice (some ad) n cap) (xs.set i.toNat ⟨y0, y1⟩) := by
  obtain ⟨g, rfl⟩ := Kd.R_head (Kd.S_R h)
  obtain ⟨oki, c, hcl, hM, hcc, hoki, hH⟩ := Kd.S_lend h z28 i h0 h1
  obtain ⟨v0, v1, rfl, r0, r1, hne⟩ := k28_openM hM
  obtain ⟨A0, c0, e0⟩ := Kd.R_slice r0
  obtain ⟨A1, c1, e1⟩ := Kd.R_slice r1
  subst e0 e1
  have cells : ∀ (V : World), (∀ j u, [(Value.slice A0 (xs.getD i.toNat z28).f0.length c0), (Value.slice A1 (xs.getD i.toNat z28).f1.length c1)][j]? = some u → V.cell? ⟨g, i.toNat * k28.sz + j, none⟩ = some u) →
      V.cell? ((⟨g, 0, none⟩ : Addr).add (i.toNat * 2)) = some (.slice A0 (rd_T28 xs i).f0.length c0) ∧ V.cell? ⟨((⟨g, 0, none⟩ : Addr).add (i.toNat * 2)).block, ((⟨g, 0, none⟩ : Addr).add (i.toNat * 2)).off + 1, none⟩ = some (.slice A1 (rd_T28 xs i).f1.length c1) := by
    intro V hV
    have a0 := hV 0 _ rfl
    have a1 := hV 1 _ rfl
    rw [add_plain]
    exact ⟨a0, a1⟩
  refine ⟨A0, c0, A1, c1, (cells W hcc).1, (cells W hcc).2, Kd.R_tight rfl r0, fun k hk => (hoki k (r0.1 k hk.symm)).1, fun k hk => (hoki k (r1.1 k hk.symm)).1, fun W1 y0 hk hr => ?_⟩
  have hH1 := Kd.H_step (w1 := W1) hH (fun k _ hn hlt => hk.2 k hlt (fun hs => hn (r0.1 k hs.symm)))
  obtain ⟨_, _, _, _, _, hcc1, _⟩ := Kd.H_raw hH1 h0 h1
  refine ⟨(cells W1 hcc1).1, (cells W1 hcc1).2, Kd.R_kept (Kd.R_tight rfl r1) hk (fun k e1 e0 => hne k e0.symm e1.symm), fun W2 y1 hk2 hr2 => ?_⟩
  have hH2 := Kd.H_step (w1 := W2) hH1 (fun k _ hn hlt => hk2.2 k hlt (fun hs => hn (r1.1 k hs.symm)))
  have hr' := Kd.R_kept (Kd.R_tight rfl hr) hk2 (fun k e0 e1 => hne k e0.symm e1.symm)
  exact Kd.H_back hH2 (k28_mkM W2 base oki ⟨y0, y1⟩ (Kd.R_mono hr' (fun k hk => r0.1 k hk.symm)) (Kd.R_mono (Kd.R_tight rfl hr2) (fun k hk => r1.1 k hk.symm)) hne) (fun _ hk => hk)
def laws_markArrayS.l0 : Nat → List (S28) → Int → Int → Option (Int × List (S28))
 | 0, _, _, _ => none
 | k + 1, x0, x1, x5 => if x5 < (x0.length : Int) then (if 0 ≤ x5 then ((laws_markIntS.f k ((rd_T28 x0 x5).f0) x1).bind fun bt0 => ((laws_markIntS.f k ((rd_T28 x0 x5).f1) bt0.1).bind fun bt1 => (laws_markArrayS.l0 k (x0.set (x5 : Int).toNat ⟨bt0.2, bt1.2⟩) bt1.1 (wrap64 (x5 + 1))))) else (none)) else (some (x1, x0))
def laws_markArrayS.f (k : Nat) (l0 : List (S28)) (a1 : Int) : Option (Int × List (S28)) := laws_markArrayS.l0 k l0 a1 0
set_option maxHeartbeats 8000000 in
set_option maxRecDepth 100000 in
theorem laws_markArrayS.calls (k : Nat) (P0_ : Nat → Prop) (u9000_ : Value) (l0 : List S28) (a1 : Int) (r1 : Int) (r2 : List S28) (w0 w : World) (hB : Below w0.heap.size w0 w) (ho0 : Kd.S k28 28 w w0.heap.size P0_ u9000_ l0) (h : laws_markArrayS.f k l0 a1 = some (r1, r2)) :
  Calls Try.prog 12 #[u9000_, .int .i64 a1] w fun e w' => e = .returned (.int .i64 r1) ∧ Kd.S k28 28 w' w0.heap.size P0_ u9000_ r2 ∧ Below w0.heap.size w0 w' ∧ Kept w w' P0_ := by
 have HO0 := Aside0.mk ho0
 have HK := Aside0.mk (Kept.refl w P0_)
 have HB := Aside0.mk hB
 clear hB ho0
 have H : (laws_markArrayS.l0 k l0 a1 0) = some (r1, r2) := h
 clear h
 have H' := Aside0.mk H
 clear H
 go_enter Try.func12, Try.ntmps12
 go_wp2
 go_loopg [1, 5] k (fun kq v1 v5 w' => ∃ (x0_1 : List S28) (x1_1 : Int) (x5_1 : Int), v1 = .int .i64 x1_1 ∧ v5 = .int .i64 x5_1 ∧ Aside0 (laws_markArrayS.l0 kq x0_1 x1_1 x5_1 = some (r1, r2)) ∧ Aside0 (kq ≤ k) ∧ Aside0 (Kd.S k28 28 w' w0.heap.size P0_ u9000_ x0_1) ∧ Aside0 (Kept w w' P0_) ∧ Aside0 (Below w0.heap.size w0 w'))
 case atStart => exact ⟨(l0), (a1), (0), (by first | rfl | (simp; done) | (simp [*]; done)), (by first | rfl | (simp; done) | (simp [*]; done)), H', ⟨Nat.le_refl _⟩, ⟨by refine SU ?_; exact HO0.out⟩, ⟨by repeat (first | (with_reducible first | exact HK.out | apply Kept.alloc | apply Kept.drewN | apply Kept.drew) | exact HK.out)⟩, ⟨by exact bU HB.out⟩⟩
 case round =>
  clear H'
  obtain ⟨x0_1, x1_1, x5_1, rfl, rfl, HA, HK1, HO_0, HK, HB⟩ := hrel
  cases gk with
  | zero => exact absurd HA.out (by simp [laws_markArrayS.l0])
  | succ k1 =>
   have H := HA.out
   clear HA
   simp only [laws_markArrayS.l0] at H
   by_cases c3 : x5_1 < (x0_1.length : Int)
   ·
    rw [if_pos c3] at H
    have c3b0 : decide (x5_1 < (x0_1.length : Int)) = true := decide_eq_true c3
    clear c3
    by_cases c4 : 0 ≤ x5_1
    ·
     rw [if_pos c4] at H
     have c4b0 : decide (0 ≤ x5_1) = true := decide_eq_true c4
     clear c4
     replace H := Option.bind_eq_some_iff.mp H
     obtain ⟨⟨t1, y1⟩, A50, H⟩ := H
     replace H : ((laws_markIntS.f k1 ((rd_T28 x0_1 x5_1).f1) t1).bind fun bt1 => (laws_markArrayS.l0 k1 (x0_1.set (x5_1 : Int).toNat ⟨y1, bt1.2⟩) bt1.1 (wrap64 (x5_1 + 1)))) = some (r1, r2) := H
     have A5 := Aside0.mk A50
     clear A50
     replace H := Option.bind_eq_some_iff.mp H
     obtain ⟨⟨t2, y2⟩, A60, H⟩ := H
     replace H : (laws_markArrayS.l0 k1 (x0_1.set (x5_1 : Int).toNat ⟨y1, y2⟩) t2 (wrap64 (x5_1 + 1))) = some (r1, r2) := H
     have A6 := Aside0.mk A60
     clear A60
     have H' := Aside0.mk H
     clear H
     obtain ⟨Ao6, co6, eo6⟩ := Kd.S_slice HO_0.out
     subst eo6
     have p5 : 0 ≤ (x5_1 : Int) := of_decide_eq_true (by first | (with_reducible assumption) | assumption)
     have q5 : (x5_1 : Int) < ((x0_1.length : Int) : Int) := of_decide_eq_true (by first | (with_reducible assumption) | assumption)
     obtain ⟨ad5, ead5⟩ : ∃ ad, Ao6 = some ad := by
      obtain ⟨ad, _, _, _, _, e, _⟩ := at_T28 (Kd.S_reads' HO_0.out).2.2 x5_1 p5 q5
      exact ⟨ad, e⟩
     subst ead5
     obtain ⟨A5_0, c5_0, A5_1, c5_1, hx5_0, hx5_1, hr5, hp5_0, hp5_1, hn5⟩ := T28_lend HO_0.out x5_1 p5 q5
     have HR5 := Aside0.mk hr5
     have HP5_0 := Aside0.mk hp5_0
     have HP5_1 := Aside0.mk hp5_1
     have HN5 := Aside0.mk hn5
     clear hr5 hp5_0 hp5_1 hn5 HO_0
     replace p5 := eq_true p5
     replace q5 := eq_true q5
     go_wp2_with (first | ((with_reducible refine gate_callee (f := 25) rfl ?_); refine goesL_ (some 18) rfl rfl Try.func25 (by kernel_rfl) rfl #[.slice A5_0 ((rd_T28 x0_1 x5_1).f0).length c5_0, .int .i64 x1_1] rfl lU ?_; (with_reducible refine (laws_markIntS.calls k1 (fun k_ => some k_ = (.slice A5_0 ((rd_T28 x0_1 x5_1).f0).length c5_0 : Value).ownBlock) (.slice A5_0 ((rd_T28 x0_1 x5_1).f0).length c5_0) ((rd_T28 x0_1 x5_1).f0) x1_1 t1 y1 w0 _ ?side1 ?side2 A5.out).mono ?_); (case side1 => exact bU HB.out); (case side2 => refine RU ?_; exact HR5.out); rintro e w8 ⟨rfl, hy0, hb, hkp⟩; refine ⟨_, rfl, ?_⟩; clear hx5_0; clear hx5_1; obtain ⟨hx7_0, hx7_1, hr7, hn7⟩ := HN5.out _ _ hkp hy0; have HR7 := Aside0.mk hr7; have HN7 := Aside0.mk hn7; replace HK := Aside0.mk (Kept.then_ (S := P0_) (by repeat (first | (with_reducible first | exact HK.out | apply Kept.alloc | apply Kept.drewN | apply Kept.drew) | exact HK.out)) hkp (fun k_ hs_ => .inl (HP5_0.out k_ hs_))); replace HB := Aside0.mk hb; clear hr7; clear hn7; clear hb; clear hkp; clear hy0) | ((with_reducible refine gate_callee (f := 25) rfl ?_); refine goesL_ (some 25) rfl rfl Try.func25 (by kernel_rfl) rfl #[.slice A5_1 ((rd_T28 x0_1 x5_1).f1).length c5_1, .int .i64 t1] rfl lU ?_; (with_reducible refine (laws_markIntS.calls k1 (fun k_ => some k_ = (.slice A5_1 ((rd_T28 x0_1 x5_1).f1).length c5_1 : Value).ownBlock) (.slice A5_1 ((rd_T28 x0_1 x5_1).f1).length c5_1) ((rd_T28 x0_1 x5_1).f1) t1 t2 y2 w0 _ ?side1 ?side2 A6.out).mono ?_); (case side1 => exact bU HB.out); (case side2 => refine RU ?_; exact HR7.out); rintro e w9 ⟨rfl, hy0, hb, hkp⟩; refine ⟨_, rfl, ?_⟩; have HO_0 := Aside0.mk (HN7.out _ _ hkp hy0); replace HK := Aside0.mk (Kept.then_ (S := P0_) (by repeat (first | (with_reducible first | exact HK.out | apply Kept.alloc | apply Kept.drewN | apply Kept.drew) | exact HK.out)) hkp (fun k_ hs_ => .inl (HP5_1.out k_ hs_))); replace HB := Aside0.mk hb; clear hb; clear hkp; clear hy0))
     go_roundg k1
     case measure => have := HK1.out; omega
     case rel => exact ⟨(x0_1.set (x5_1 : Int).toNat ⟨y1, y2⟩), (t2), (wrap64 (x5_1 + 1)), (by first | rfl | (simp; done) | (simp [*]; done)), (by first | rfl | (simp; done) | (simp [*]; done)), H', ⟨by have := HK1.out; omega⟩, ⟨by refine SU ?_; exact HO_0.out⟩, ⟨by repeat (first | (with_reducible first | exact HK.out | apply Kept.alloc | apply Kept.drewN | apply Kept.drew) | exact HK.out)⟩, ⟨by exact bU HB.out⟩⟩
    ·
     rw [if_neg c4] at H
     exact absurd H (by simp)
   ·
    rw [if_neg c3] at H
    have c3b0 : decide (x5_1 < (x0_1.length : Int)) = false := decide_eq_false c3
    clear c3
    simp only [Option.some.injEq, Prod.mk.injEq] at H
    obtain ⟨rfl, rfl⟩ := H
    obtain ⟨Ao9, co9, eo9⟩ := Kd.S_slice HO_0.out
    subst eo9
    go_wp2
    go_ret
    exact ⟨by first | rfl | (simp [errW_none, errW_some] <;> rfl) | (simp [*, errW_none, errW_some] <;> rfl), by refine SU ?_; exact HO_0.out, by exact bU HB.out, by repeat (first | (with_reducible first | exact HK.out | apply Kept.alloc | apply Kept.drewN | apply Kept.drew) | exact HK.out)⟩

/-! ### laws_heldIntS: function 26 -/
def laws_heldIntS.l0 : Nat → List Int → Int → Int → Option (Int)
 | 0, _, _, _ => none
 | k + 1, x0, x1, x5 => if x5 < (x0.length : Int) then (if 0 ≤ x5 then (if (rd x0 x5) = x1 then (laws_heldIntS.l0 k x0 (wrap64 (x1 + 1)) (wrap64 (x5 + 1))) else (some (-1))) else (none)) else (some x1)
def laws_heldIntS.f (k : Nat) (l0 : List Int) (a1 : Int) : Option (Int) := laws_heldIntS.l0 k l0 a1 0
set_option maxHeartbeats 8000000 in
set_option maxRecDepth 100000 in
theorem laws_heldIntS.calls (k : Nat) (A0 : Option Addr) (c0 : Nat) (l0 : List Int) (a1 : Int) (r : Int) (w : World) (hr0 : Kd.C (Kd.int .i64) w A0 l0.length l0) (hc0 : l0.length ≤ c0) (h : laws_heldIntS.f k l0 a1 = some r) :
  Calls Try.prog 26 #[.slice A0 l0.length c0, .int .i64 a1] w fun e w' => e = .returned (.int .i64 r) ∧ Drawn0 w w' := by
 have HR0 := Aside0.mk hr0
 have HC0 := Aside0.mk hc0
 clear hr0 hc0
 have H : (laws_heldIntS.l0 k l0 a1 0) = some r := h
 clear h
 have H' := Aside0.mk H
 clear H
 go_enter Try.func26, Try.ntmps26
 go_wp2
 go_loopg [1, 5] k (fun kq v1 v5 w' => ∃ (x1_1 : Int) (x5_1 : Int), v1 = .int .i64 x1_1 ∧ v5 = .int .i64 x5_1 ∧ Aside0 (laws_heldIntS.l0 kq l0 x1_1 x5_1 = some r) ∧ Aside0 (kq ≤ k) ∧ Drawn0 w w')
 case atStart => exact ⟨(a1), (0), (by first | rfl | (simp; done) | (simp [*]; done)), (by first | rfl | (simp; done) | (simp [*]; done)), H', ⟨Nat.le_refl _⟩, by repeat (first | exact Drawn0.refl _ | apply Drawn0.step)⟩
 case round =>
  clear H'
  try clear c2
  try clear p2
  obtain ⟨x1_1, x5_1, rfl, rfl, HA, HK1, ⟨m1, rfl⟩⟩ := hrel
  cases gk with
  | zero => exact absurd HA.out (by simp [laws_heldIntS.l0])
  | succ k1 =>
   have H := HA.out
   clear HA
   simp only [laws_heldIntS.l0] at H
   by_cases c3 : x5_1 < (l0.length : Int)
   ·
    rw [if_pos c3] at H
    have c3b0 : decide (x5_1 < (l0.length : Int)) = true := decide_eq_true c3
    clear c3
    by_cases c4 : 0 ≤ x5_1
    ·
     rw [if_pos c4] at H
     have c4b0 : decide (0 ≤ x5_1) = true := decide_eq_true c4
     clear c4
     by_cases c5 : (rd l0 x5_1) = x1_1
     ·
      rw [if_pos c5] at H
      have c5b0 : ((rd l0 x5_1) == x1_1) = true := beq_iff_eq.mpr c5
      have c5b1 : ((rd l0 x5_1) != x1_1) = false := bne_eq_false_iff_eq.mpr c5
      clear c5
      have H' := Aside0.mk H
      clear H
      have p212 : 0 ≤ (x5_1 : Int) := of_decide_eq_true (by first | (with_reducible assumption) | assumption)
      have q212 : x5_1 < (l0.length : Int) := of_decide_eq_true (by first | (with_reducible assumption) | assumption)
      obtain ⟨ad212, e212, hx212_0⟩ := Kd.at_int HR0.out x5_1 p212 q212
      cases e212
      replace p212 := eq_true p212
      replace q212 := eq_true q212
      go_wp2
      go_roundg k1
      case measure => have := HK1.out; omega
      case rel => exact ⟨(wrap64 (x1_1 + 1)), (wrap64 (x5_1 + 1)), (by first | rfl | (simp; done) | (simp [*]; done)), (by first | rfl | (simp; done) | (simp [*]; done)), H', ⟨by have := HK1.out; omega⟩, by repeat (first | exact Drawn0.refl _ | apply Drawn0.step)⟩
     ·
      rw [if_neg c5] at H
      have c5b0 : ((rd l0 x5_1) == x1_1) = false := beq_eq_false_iff_ne.mpr c5
      have c5b1 : ((rd l0 x5_1) != x1_1) = true := bne_iff_ne.mpr c5
      obtain rfl := Option.some.inj H
      have p212 : 0 ≤ (x5_1 : Int) := of_decide_eq_true (by first | (with_reducible assumption) | assumption)
      have q212 : x5_1 < (l0.length : Int) := of_decide_eq_true (by first | (with_reducible assumption) | assumption)
      obtain ⟨ad212, e212, hx212_0⟩ := Kd.at_int HR0.out x5_1 p212 q212
      cases e212
      replace p212 := eq_true p212
      replace q212 := eq_true q212
      go_wp2
      go_ret
      exact ⟨rU, dU⟩
    ·
     rw [if_neg c4] at H
     exact absurd H (by simp)
   ·
    rw [if_neg c3] at H
    have c3b0 : decide (x5_1 < (l0.length : Int)) = false := decide_eq_false c3
    clear c3
    obtain rfl := Option.some.inj H
    go_wp2
    go_ret
    exact ⟨rU, dU⟩

/-! ### laws_heldArrayS: function 13 -/
def laws_heldArrayS.l0 : Nat → List (S28) → Int → Int → Option (Int)
 | 0, _, _, _ => none
 | k + 1, x0, x1, x5 => if x5 < (x0.length : Int) then (if 0 ≤ x5 then ((laws_heldIntS.f k ((rd_T28 x0 x5).f0) x1).bind fun t214 => (if t214 < 0 then (some (-1)) else ((laws_heldIntS.f k ((rd_T28 x0 x5).f1) t214).bind fun t216 => (if t216 < 0 then (some (-1)) else (laws_heldArrayS.l0 k x0 t216 (wrap64 (x5 + 1))))))) else (none)) else (some x1)
def laws_heldArrayS.f (k : Nat) (l0 : List (S28)) (a1 : Int) : Option (Int) := laws_heldArrayS.l0 k l0 a1 0
set_option maxHeartbeats 8000000 in
set_option maxRecDepth 100000 in
theorem laws_heldArrayS.calls (k : Nat) (A0 : Option Addr) (c0 : Nat) (l0 : List (S28)) (a1 : Int) (r : Int) (w : World) (hr0 : Kd.C k28 w A0 l0.length l0) (hc0 : l0.length ≤ c0) (h : laws_heldArrayS.f k l0 a1 = some r) :
  Calls Try.prog 13 #[.slice A0 l0.length c0, .int .i64 a1] w fun e w' => e = .returned (.int .i64 r) ∧ Drawn0 w w' := by
 have HR0 := Aside0.mk hr0
 have HC0 := Aside0.mk hc0
 clear hr0 hc0
 have H : (laws_heldArrayS.l0 k l0 a1 0) = some r := h
 clear h
 have H' := Aside0.mk H
 clear H
 go_enter Try.func13, Try.ntmps13
 go_wp2
 go_loopg [1, 5] k (fun kq v1 v5 w' => ∃ (x1_1 : Int) (x5_1 : Int), v1 = .int .i64 x1_1 ∧ v5 = .int .i64 x5_1 ∧ Aside0 (laws_heldArrayS.l0 kq l0 x1_1 x5_1 = some r) ∧ Aside0 (kq ≤ k) ∧ Drawn0 w w')
 case atStart => exact ⟨(a1), (0), (by first | rfl | (simp; done) | (simp [*]; done)), (by first | rfl | (simp; done) | (simp [*]; done)), H', ⟨Nat.le_refl _⟩, by repeat (first | exact Drawn0.refl _ | apply Drawn0.step)⟩
 case round =>
  clear H'
  try clear c1
  try clear p2
  obtain ⟨x1_1, x5_1, rfl, rfl, HA, HK1, ⟨m1, rfl⟩⟩ := hrel
  cases gk with
  | zero => exact absurd HA.out (by simp [laws_heldArrayS.l0])
  | succ k1 =>
   have H := HA.out
   clear HA
   simp only [laws_heldArrayS.l0] at H
   by_cases c3 : x5_1 < (l0.length : Int)
   ·
    rw [if_pos c3] at H
    have c3b0 : decide (x5_1 < (l0.length : Int)) = true := decide_eq_true c3
    clear c3
    by_cases c4 : 0 ≤ x5_1
    ·
     rw [if_pos c4] at H
     have c4b0 : decide (0 ≤ x5_1) = true := decide_eq_true c4
     clear c4
     replace H := Option.bind_eq_some_iff.mp H
     obtain ⟨t214, A50, H⟩ := H
     replace H : (if t214 < 0 then (some (-1)) else ((laws_heldIntS.f k1 ((rd_T28 l0 x5_1).f1) t214).bind fun t216 => (if t216 < 0 then (some (-1)) else (laws_heldArrayS.l0 k1 l0 t216 (wrap64 (x5_1 + 1)))))) = some r := H
     have A5 := Aside0.mk A50
     clear A50
     by_cases c6 : t214 < 0
     ·
      rw [if_pos c6] at H
      have c6b0 : decide (t214 < 0) = true := decide_eq_true c6
      clear c6
      obtain rfl := Option.some.inj H
      have p213 : 0 ≤ (x5_1 : Int) := of_decide_eq_true (by first | (with_reducible assumption) | assumption)
      have q213 : x5_1 < (l0.length : Int) := of_decide_eq_true (by first | (with_reducible assumption) | assumption)
      obtain ⟨ad213, A213_0, c213_0, A213_1, c213_1, e213, hx213_0, hx213_1, hl213_0, hi213_0, hl213_1, hi213_1⟩ := at_T28 HR0.out x5_1 p213 q213
      cases e213
      have HR213_0 := Aside0.mk hi213_0
      have HC213_0 := Aside0.mk hl213_0
      clear hi213_0 hl213_0
      have HR213_1 := Aside0.mk hi213_1
      have HC213_1 := Aside0.mk hl213_1
      clear hi213_1 hl213_1
      replace p213 := eq_true p213
      replace q213 := eq_true q213
      go_wp2_with (first | ((with_reducible refine gate_callee (f := 26) rfl ?_); refine goesL_ (some 18) rfl rfl Try.func26 (by kernel_rfl) rfl #[.slice A213_0 ((rd_T28 l0 x5_1).f0).length c213_0, .int .i64 x1_1] rfl lU ?_; (with_reducible refine (laws_heldIntS.calls k1 _ _ ((rd_T28 l0 x5_1).f0) x1_1 t214 _ ?side1 ?side2 A5.out).mono ?_); (case side1 => exact cU HR213_0.out); (case side2 => exact HC213_0.out); rintro e w' ⟨rfl, ⟨nd, rfl⟩⟩; refine ⟨_, rfl, ?_⟩))
      go_ret
      exact ⟨rU, dU⟩
     ·
      rw [if_neg c6] at H
      have c6b0 : decide (t214 < 0) = false := decide_eq_false c6
      clear c6
      replace H := Option.bind_eq_some_iff.mp H
      obtain ⟨t216, A70, H⟩ := H
      replace H : (if t216 < 0 then (some (-1)) else (laws_heldArrayS.l0 k1 l0 t216 (wrap64 (x5_1 + 1)))) = some r := H
      have A7 := Aside0.mk A70
      clear A70
      by_cases c8 : t216 < 0
      ·
       rw [if_pos c8] at H
       have c8b0 : decide (t216 < 0) = true := decide_eq_true c8
       clear c8
       obtain rfl := Option.some.inj H
       have p213 : 0 ≤ (x5_1 : Int) := of_decide_eq_true (by first | (with_reducible assumption) | assumption)
       have q213 : x5_1 < (l0.length : Int) := of_decide_eq_true (by first | (with_reducible assumption) | assumption)
       obtain ⟨ad213, A213_0, c213_0, A213_1, c213_1, e213, hx213_0, hx213_1, hl213_0, hi213_0, hl213_1, hi213_1⟩ := at_T28 HR0.out x5_1 p213 q213
       cases e213
       have HR213_0 := Aside0.mk hi213_0
       have HC213_0 := Aside0.mk hl213_0
       clear hi213_0 hl213_0
       have HR213_1 := Aside0.mk hi213_1
       have HC213_1 := Aside0.mk hl213_1
       clear hi213_1 hl213_1
       replace p213 := eq_true p213
       replace q213 := eq_true q213
       go_wp2_with (first | ((with_reducible refine gate_callee (f := 26) rfl ?_); refine goesL_ (some 18) rfl rfl Try.func26 (by kernel_rfl) rfl #[.slice A213_0 ((rd_T28 l0 x5_1).f0).length c213_0, .int .i64 x1_1] rfl lU ?_; (with_reducible refine (laws_heldIntS.calls k1 _ _ ((rd_T28 l0 x5_1).f0) x1_1 t214 _ ?side1 ?side2 A5.out).mono ?_); (case side1 => exact cU HR213_0.out); (case side2 => exact HC213_0.out); rintro e w' ⟨rfl, ⟨nd, rfl⟩⟩; refine ⟨_, rfl, ?_⟩; have p215 : 0 ≤ (x5_1 : Int) := of_decide_eq_true (by first | (with_reducible assumption) | assumption); have q215 : x5_1 < (l0.length : Int) := of_decide_eq_true (by first | (with_reducible assumption) | assumption); obtain ⟨ad215, A215_0, c215_0, A215_1, c215_1, e215, hx215_0, hx215_1, hl215_0, hi215_0, hl215_1, hi215_1⟩ := at_T28 HR0.out x5_1 p215 q215; obtain rfl : ad213 = ad215 := (by injection e215); have HR215_0 := Aside0.mk hi215_0; have HC215_0 := Aside0.mk hl215_0; clear hi215_0 hl215_0; have HR215_1 := Aside0.mk hi215_1; have HC215_1 := Aside0.mk hl215_1; clear hi215_1 hl215_1; replace p215 := eq_true p215; replace q215 := eq_true q215; have ea_ := Option.some.inj (hx213_0.symm.trans hx215_0); injection ea_ with ea_ en_ ec_; subst ea_; subst ec_; clear en_; have ea_ := Option.some.inj (hx213_1.symm.trans hx215_1); injection ea_ with ea_ en_ ec_; subst ea_; subst ec_; clear en_) | ((with_reducible refine gate_callee (f := 26) rfl ?_); refine goesL_ (some 27) rfl rfl Try.func26 (by kernel_rfl) rfl #[.slice A213_1 ((rd_T28 l0 x5_1).f1).length c213_1, .int .i64 t214] rfl lU ?_; (with_reducible refine (laws_heldIntS.calls k1 _ _ ((rd_T28 l0 x5_1).f1) t214 t216 _ ?side1 ?side2 A7.out).mono ?_); (case side1 => exact cU HR215_1.out); (case side2 => exact HC215_1.out); rintro e w' ⟨rfl, ⟨nd, rfl⟩⟩; refine ⟨_, rfl, ?_⟩))
       go_ret
       exact ⟨rU, dU⟩
      ·
       rw [if_neg c8] at H
       have c8b0 : decide (t216 < 0) = false := decide_eq_false c8
       clear c8
       have H' := Aside0.mk H
       clear H
       have p213 : 0 ≤ (x5_1 : Int) := of_decide_eq_true (by first | (with_reducible assumption) | assumption)
       have q213 : x5_1 < (l0.length : Int) := of_decide_eq_true (by first | (with_reducible assumption) | assumption)
       obtain ⟨ad213, A213_0, c213_0, A213_1, c213_1, e213, hx213_0, hx213_1, hl213_0, hi213_0, hl213_1, hi213_1⟩ := at_T28 HR0.out x5_1 p213 q213
       cases e213
       have HR213_0 := Aside0.mk hi213_0
       have HC213_0 := Aside0.mk hl213_0
       clear hi213_0 hl213_0
       have HR213_1 := Aside0.mk hi213_1
       have HC213_1 := Aside0.mk hl213_1
       clear hi213_1 hl213_1
       replace p213 := eq_true p213
       replace q213 := eq_true q213
       go_wp2_with (first | ((with_reducible refine gate_callee (f := 26) rfl ?_); refine goesL_ (some 18) rfl rfl Try.func26 (by kernel_rfl) rfl #[.slice A213_0 ((rd_T28 l0 x5_1).f0).length c213_0, .int .i64 x1_1] rfl lU ?_; (with_reducible refine (laws_heldIntS.calls k1 _ _ ((rd_T28 l0 x5_1).f0) x1_1 t214 _ ?side1 ?side2 A5.out).mono ?_); (case side1 => exact cU HR213_0.out); (case side2 => exact HC213_0.out); rintro e w' ⟨rfl, ⟨nd, rfl⟩⟩; refine ⟨_, rfl, ?_⟩; have p215 : 0 ≤ (x5_1 : Int) := of_decide_eq_true (by first | (with_reducible assumption) | assumption); have q215 : x5_1 < (l0.length : Int) := of_decide_eq_true (by first | (with_reducible assumption) | assumption); obtain ⟨ad215, A215_0, c215_0, A215_1, c215_1, e215, hx215_0, hx215_1, hl215_0, hi215_0, hl215_1, hi215_1⟩ := at_T28 HR0.out x5_1 p215 q215; obtain rfl : ad213 = ad215 := (by injection e215); have HR215_0 := Aside0.mk hi215_0; have HC215_0 := Aside0.mk hl215_0; clear hi215_0 hl215_0; have HR215_1 := Aside0.mk hi215_1; have HC215_1 := Aside0.mk hl215_1; clear hi215_1 hl215_1; replace p215 := eq_true p215; replace q215 := eq_true q215; have ea_ := Option.some.inj (hx213_0.symm.trans hx215_0); injection ea_ with ea_ en_ ec_; subst ea_; subst ec_; clear en_; have ea_ := Option.some.inj (hx213_1.symm.trans hx215_1); injection ea_ with ea_ en_ ec_; subst ea_; subst ec_; clear en_) | ((with_reducible refine gate_callee (f := 26) rfl ?_); refine goesL_ (some 27) rfl rfl Try.func26 (by kernel_rfl) rfl #[.slice A213_1 ((rd_T28 l0 x5_1).f1).length c213_1, .int .i64 t214] rfl lU ?_; (with_reducible refine (laws_heldIntS.calls k1 _ _ ((rd_T28 l0 x5_1).f1) t214 t216 _ ?side1 ?side2 A7.out).mono ?_); (case side1 => exact cU HR215_1.out); (case side2 => exact HC215_1.out); rintro e w' ⟨rfl, ⟨nd, rfl⟩⟩; refine ⟨_, rfl, ?_⟩))
       go_roundg k1
       case measure => have := HK1.out; omega
       case rel => exact ⟨(t216), (wrap64 (x5_1 + 1)), (by first | rfl | (simp; done) | (simp [*]; done)), (by first | rfl | (simp; done) | (simp [*]; done)), H', ⟨by have := HK1.out; omega⟩, by repeat (first | exact Drawn0.refl _ | apply Drawn0.step)⟩
    ·
     rw [if_neg c4] at H
     exact absurd H (by simp)
   ·
    rw [if_neg c3] at H
    have c3b0 : decide (x5_1 < (l0.length : Int)) = false := decide_eq_false c3
    clear c3
    obtain rfl := Option.some.inj H
    go_wp2
    go_ret
    exact ⟨rU, dU⟩

end Go.Proofs.Ytnpcjppcoejgmaa.PFnExactRows
