/- The walk of what a law reaches, for the law's row: written by a program of this session; it has no condition of its own. -/
import Derived.Test.YtkjcpgjhpfocmaaPFnTurnedx0
import Derived.Test.YtkjcpgjhpfocmaaQ
import Derived.Test.YtkjcpgjhpfocmaaRev
import Derived.Test.YtkjcpgjhpfocmaaPFnTurnedx3
import Derived.Test.YtkjcpgjhpfocmaaPFnTurnedx4
namespace Go.Proofs.Ytkjcpgjhpfocmaa.PFnTurned
open Go.RowKit Go.Proofs.YtkjcpgjhpfocmaaW.PrintWords Go.Proofs.YtkjcpgjhpfocmaaW.PrintLast Go.Proofs.YtkjcpgjhpfocmaaW.PrintMore Go.Proofs.YtkjcpgjhpfocmaaQ
attribute [local go_sem] max2_int min2_int max_two min_two max_three min_three max_four min_four   -- for this text's walks alone
set_option linter.unusedVariables false
set_option linter.unusedSimpArgs false

/-! ### impl_Rows: function 17 -/
mutual
def impl_Rows.j0 : Nat → Bool → List Int → List Int → Option ((List (S26)))
 | 0, _, _, _ => none
 | k + 1, x14, x321000, x321001 => if x14 = true then (some ([] : List (S26))) else (if 1 ≤ (x321000.length : Int) then ((impl_SizeOf.f k (x321000.drop 1)).bind fun t323 => (impl_Rows.l0 k t323 ([] : List (S26)) 0 x321000 x321001)) else (none))
def impl_Rows.l0 : Nat → Int → List (S26) → Int → List Int → List Int → Option ((List (S26)))
 | 0, _, _, _, _, _ => none
 | k + 1, x3, x4, x5, x321000, x321001 => if 0 < (x321000.length : Int) then (if x5 < (rd x321000 0) then (if 1 ≤ (x321000.length : Int) then (if 0 ≤ (wrap64 (x5 * x3)) then (if (wrap64 (x5 * x3)) ≤ (wrap64 ((wrap64 (x5 + 1)) * x3)) then (if (wrap64 ((wrap64 (x5 + 1)) * x3)) ≤ (x321001.length : Int) then ((impl_copyArray.f (x321000.drop 1) ((x321001.take ((wrap64 ((wrap64 (x5 + 1)) * x3)) : Int).toNat).drop ((wrap64 (x5 * x3)) : Int).toNat)).bind fun bt327 => (if x4.length < 2932031007402 then (impl_Rows.l0 k x3 (x4 ++ [(⟨bt327.1, bt327.2⟩ : S26)]) (wrap64 (x5 + 1)) x321000 x321001) else (none))) else (none)) else (none)) else (none)) else (none)) else (some x4)) else (none)
end
def impl_Rows.f (k : Nat) (l0_0 : List Int) (l0_1 : List Int) : Option ((List (S26))) := (impl_ArrayOk.f k l0_0 l0_1).bind fun t321 => (if t321 = true then (impl_Rows.j0 k ((l0_0.length : Int) == 0) l0_0 l0_1) else (impl_Rows.j0 k true l0_0 l0_1))
def impl_Rows.T8 : Bool × List (List Nat × List Nat) := (true, [([], []), ([], []), ([1], [1]), ([2], [2]), ([], []), ([4], [4]), ([], []), ([], []), ([6, 7], [6, 7]), ([], []), ([9], [9]), ([], []), ([10, 11], [10, 11]), ([5, 8, 12], [5, 8, 12]), ([3, 13], [3, 13]), ([14], [14]), ([15], [15]), ([0, 16, 15], [0, 16]), ([17, 17, 0, 1, 2, 3, 4, 5, 6, 7, 8, 9, 10, 11, 12, 13, 14, 15, 16, 17], [0, 17])])
def impl_Rows.B8 : List Nat := [0, 0, 2, 6, 0, 16, 0, 0, 192, 0, 512, 0, 3584, 8176, 16382, 32766, 65534, 131071, 262143]
theorem impl_Rows.tab8 : rtab .any (opsOf Try.f17 8) = impl_Rows.T8 := by kernel_rfl
theorem impl_Rows.bits8 : waitsOk impl_Rows.T8.2 impl_Rows.B8 = true := by kernel_rfl
set_option maxHeartbeats 8000000 in
set_option maxRecDepth 100000 in
theorem impl_Rows.calls (k : Nat) (A0_0 : Option Addr) (c0_0 : Nat) (l0_0 : List Int) (A0_1 : Option Addr) (c0_1 : Nat) (l0_1 : List Int) (r : List (S26)) (w : World) (hr0_0 : Kd.C (Kd.int .i64) w A0_0 l0_0.length l0_0) (hc0_0 : l0_0.length ≤ c0_0) (hr0_1 : Kd.C (Kd.int .i64) w A0_1 l0_1.length l0_1) (hc0_1 : l0_1.length ≤ c0_1) (h : impl_Rows.f k l0_0 l0_1 = some r) :
  Calls Try.prog 17 #[.agg #[.slice A0_0 l0_0.length c0_0, .slice A0_1 l0_1.length c0_1]] w fun e w' => ∃ v0_ : Value, e = .returned (v0_) ∧ Kd.S k26 26 w' w.heap.size (fun _ => True) v0_ r ∧ Below w.heap.size w w' := by
 have hu26 := Try.underlying26
 have HR0_0 := Aside0.mk hr0_0
 have HC0_0 := Aside0.mk hc0_0
 clear hr0_0 hc0_0
 have HR0_1 := Aside0.mk hr0_1
 have HC0_1 := Aside0.mk hc0_1
 clear hr0_1 hc0_1
 have HB := Aside0.mk (Below.refl w.heap.size w)
 have H : ((impl_ArrayOk.f k l0_0 l0_1).bind fun t321 => (if t321 = true then (impl_Rows.j0 k ((l0_0.length : Int) == 0) l0_0 l0_1) else (impl_Rows.j0 k true l0_0 l0_1))) = some r := h
 clear h
 have HC2 := Aside0.mk H
 clear H
 go_enter Try.func17, Try.ntmps17
 go_upto_region 1 with (first | ((with_reducible refine gate_dst (N := 1) rfl ?_); (try (refine gate_guard (by rfl) ?_; dsimp only)); refine box_event ?hg (N := 1) ?hd (cs := #[.slice A0_0 l0_0.length c0_0, .slice A0_1 l0_1.length c0_1]) (t := 26) ?hr ?_; (case hd => rfl); (case hg => rfl); (case hr => first | (go_simp; done) | (go_simp; rfl)); intro gb320 hg w3 hbox hb; have BK320 := Aside0.mk (hbox); have GW320 := Aside0.mk ((by rw [hg]; exact (below_size (bU HB.out)) : w.heap.size ≤ gb320)); have GE320 := Aside0.mk ((by rw [hg]; exact (below_size (bU HB.out)) : w.heap.size ≤ gb320)); replace HB := Aside0.mk (below_step (bU HB.out) hb); clear hb hbox hg))
 (try simp only [Act.put, List.setIfInBounds_toArray, List.set_cons_zero, List.set_cons_succ])
 go_cut [14] (fun v14 wc => ∃ (kq : Nat) (x14_1 : Bool), v14 = .bool x14_1 ∧ Aside0 (impl_Rows.j0 kq x14_1 l0_0 l0_1 = some r) ∧ Aside0 (kq ≤ k) ∧ Aside0 (wc.heap[gb320]? = some (.cells #[(.slice A0_0 l0_0.length c0_0), (.slice A0_1 l0_1.length c0_1)] 26 (0, 0))) ∧ Aside0 (Below w.heap.size w wc))
 case first =>
  have H := HC2.out
  clear HC2
  replace H := Option.bind_eq_some_iff.mp H
  obtain ⟨t321, A40, H⟩ := H
  replace H : (if t321 = true then (impl_Rows.j0 k ((l0_0.length : Int) == 0) l0_0 l0_1) else (impl_Rows.j0 k true l0_0 l0_1)) = some r := H
  have A4 := Aside0.mk A40
  clear A40
  by_cases c5 : t321 = true
  ·
   subst c5
   have H1 : (impl_Rows.j0 k ((l0_0.length : Int) == 0) l0_0 l0_1) = some r := by rw [if_pos rfl] at H; exact H
   clear H
   have H := H1
   clear H1
   have H' := Aside0.mk H
   clear H
   have hcz6_0 : w3.cell? ⟨gb320, 0, none⟩ = some (.slice A0_0 l0_0.length c0_0) := (blk_cell BK320.out 0).trans rfl
   have hcz6_1 : w3.cell? ⟨gb320, 1, none⟩ = some (.slice A0_1 l0_1.length c0_1) := (blk_cell BK320.out 1).trans rfl
   have hfz6_0 := blk_frozen BK320.out 0
   have hfz6_1 := blk_frozen BK320.out 1
   go_wp2_with (first | ((with_reducible refine gate_callee (f := 15) rfl ?_); refine goesL_ (some 7) rfl rfl Try.func15 (by kernel_rfl) rfl #[.agg #[.slice A0_0 l0_0.length c0_0, .slice A0_1 l0_1.length c0_1]] rfl lU ?_; (with_reducible refine (impl_ArrayOk.calls k _ _ l0_0 _ _ l0_1 true _ ?side1 ?side2 ?side3 ?side4 A4.out).mono ?_); (case side1 => exact cU (Kd.C_below HR0_0.out HB.out)); (case side2 => exact HC0_0.out); (case side3 => exact cU (Kd.C_below HR0_1.out HB.out)); (case side4 => exact HC0_1.out); rintro e w7 ⟨rfl, hb⟩; refine ⟨_, rfl, ?_⟩; replace BK320 := Aside0.mk (kB BK320.out hb); replace HB := Aside0.mk (below_step (bS1 HB.out GE320.out) hb); (try clear hb); (try clear hb2); (try clear hk); (try clear hi); have hcz8_0 : w7.cell? ⟨gb320, 0, none⟩ = some (.slice A0_0 l0_0.length c0_0) := (blk_cell BK320.out 0).trans rfl; have hcz8_1 : w7.cell? ⟨gb320, 1, none⟩ = some (.slice A0_1 l0_1.length c0_1) := (blk_cell BK320.out 1).trans rfl; have hfz8_0 := blk_frozen BK320.out 0; have hfz8_1 := blk_frozen BK320.out 1))
   go_meet
   case rel => exact ⟨_, (((l0_0.length : Int) == 0)), (by first | rfl | (simp; done) | (simp [*]; done)), H', ⟨by first | omega | exact Nat.le_refl _⟩, ⟨by refine kU ?_; exact BK320.out⟩, ⟨by exact bS1 HB.out GE320.out⟩⟩
  ·
   replace c5 := Bool.eq_false_iff.mpr c5
   subst c5
   have H1 : (impl_Rows.j0 k true l0_0 l0_1) = some r := by rw [if_neg (show ¬ (false = true) by decide)] at H; exact H
   clear H
   have H := H1
   clear H1
   have H' := Aside0.mk H
   clear H
   have hcz9_0 : w3.cell? ⟨gb320, 0, none⟩ = some (.slice A0_0 l0_0.length c0_0) := (blk_cell BK320.out 0).trans rfl
   have hcz9_1 : w3.cell? ⟨gb320, 1, none⟩ = some (.slice A0_1 l0_1.length c0_1) := (blk_cell BK320.out 1).trans rfl
   have hfz9_0 := blk_frozen BK320.out 0
   have hfz9_1 := blk_frozen BK320.out 1
   go_wp2_with (first | ((with_reducible refine gate_callee (f := 15) rfl ?_); refine goesL_ (some 7) rfl rfl Try.func15 (by kernel_rfl) rfl #[.agg #[.slice A0_0 l0_0.length c0_0, .slice A0_1 l0_1.length c0_1]] rfl lU ?_; (with_reducible refine (impl_ArrayOk.calls k _ _ l0_0 _ _ l0_1 false _ ?side1 ?side2 ?side3 ?side4 A4.out).mono ?_); (case side1 => exact cU (Kd.C_below HR0_0.out HB.out)); (case side2 => exact HC0_0.out); (case side3 => exact cU (Kd.C_below HR0_1.out HB.out)); (case side4 => exact HC0_1.out); rintro e w10 ⟨rfl, hb⟩; refine ⟨_, rfl, ?_⟩; replace BK320 := Aside0.mk (kB BK320.out hb); replace HB := Aside0.mk (below_step (bS1 HB.out GE320.out) hb); (try clear hb); (try clear hb2); (try clear hk); (try clear hi)))
   go_meet
   case rel => exact ⟨_, (true), (by first | rfl | (simp; done) | (simp [*]; done)), H', ⟨by first | omega | exact Nat.le_refl _⟩, ⟨by refine kU ?_; exact BK320.out⟩, ⟨by exact bS1 HB.out GE320.out⟩⟩
 case rest =>
  clear HC2
  try clear c1
  try clear p2
  try clear c5
  try clear hcz6_0
  try clear hcz6_1
  try clear hcz8_0
  try clear hcz8_1
  try clear hcz9_0
  try clear hcz9_1
  try clear hfz6_0
  try clear hfz6_1
  try clear hfz8_0
  try clear hfz8_1
  try clear hfz9_0
  try clear hfz9_1
  obtain ⟨kq, x14_1, rfl, HA, HJ1, BK320, HB⟩ := hcut
  cases kq with
  | zero => exact absurd HA.out (by simp [impl_Rows.j0])
  | succ kj1 =>
   have H := HA.out
   clear HA
   simp only [impl_Rows.j0] at H
   by_cases c11 : x14_1 = true
   ·
    subst c11
    have H1 : (some ([] : List (S26))) = some r := by rw [if_pos rfl] at H; exact H
    clear H
    have H := H1
    clear H1
    obtain rfl := Option.some.inj H
    go_wp2
    go_ret
    exact ⟨_, by first | rfl | (simp [errW_none, errW_some] <;> rfl) | (simp [*, errW_none, errW_some] <;> rfl), by first | exact Kd.S_nil _ _ _ _ _ | exact Kd.N_nil _ _ _ _ _ | exact Kd.V_nil _ _ _ _ _ | exact Kd.Q_nil _ _ _ _ _ | exact Kd.R_nil _ _ _ _ _, by exact bS1 HB.out GE320.out⟩
   ·
    replace c11 := Bool.eq_false_iff.mpr c11
    subst c11
    have H1 : (if 1 ≤ (l0_0.length : Int) then ((impl_SizeOf.f kj1 (l0_0.drop 1)).bind fun t323 => (impl_Rows.l0 kj1 t323 ([] : List (S26)) 0 l0_0 l0_1)) else (none)) = some r := by rw [if_neg (show ¬ (false = true) by decide)] at H; exact H
    clear H
    have H := H1
    clear H1
    by_cases c12 : 1 ≤ (l0_0.length : Int)
    ·
     rw [if_pos c12] at H
     have c12b0 := eq_true c12
     have c12b1 : decide (1 ≤ (l0_0.length : Int)) = true := decide_eq_true c12
     clear c12
     replace H := Option.bind_eq_some_iff.mp H
     obtain ⟨t323, A130, H⟩ := H
     replace H : (impl_Rows.l0 kj1 t323 ([] : List (S26)) 0 l0_0 l0_1) = some r := H
     have A13 := Aside0.mk A130
     clear A130
     have H' := Aside0.mk H
     clear H
     have hcz14_0 : wc.cell? ⟨gb320, 0, none⟩ = some (.slice A0_0 l0_0.length c0_0) := (blk_cell BK320.out 0).trans rfl
     have hcz14_1 : wc.cell? ⟨gb320, 1, none⟩ = some (.slice A0_1 l0_1.length c0_1) := (blk_cell BK320.out 1).trans rfl
     have hfz14_0 := blk_frozen BK320.out 0
     have hfz14_1 := blk_frozen BK320.out 1
     obtain ⟨i015, hi015, _, hsz15, _⟩ := info_parts info3
     obtain ⟨A15, hcut15, hA15, hC15⟩ := print_drop_of (P := Try.prog) (Value.int .i64) 0 24 3 .i64 Try.underlying24 hi015 hsz15 A0_0 c0_0 l0_0 1 (by omega) (of_decide_eq_true (by first | (with_reducible assumption) | assumption)) HC0_0.out
     have HR322 := Aside0.mk (Kd.C_of_reads (h1 := fun _ => rfl) (hA15 _ (Kd.reads_of_C HR0_0.out)))
     have HC322 := Aside0.mk hC15
     clear hA15 hC15 hi015 hsz15
     go_wp2_with (first | ((with_reducible refine gate_callee (f := 34) rfl ?_); refine goesL_ (some 18) rfl rfl Try.func34 (by kernel_rfl) rfl #[.slice A15 (l0_0.drop 1).length (c0_0 - 1)] rfl (by (try simp only [List.map_toArray, List.map_cons, List.map_nil]); first | done | (rw [show (l0_0.drop 1).length = (l0_0.length - 1) from List.length_drop] <;> rfl) | rfl | (simp only [List.length_drop, List.length_take]; rfl)) ?_; (with_reducible refine (impl_SizeOf.calls kj1 _ _ (l0_0.drop 1) t323 _ ?side1 ?side2 A13.out).mono ?_); (case side1 => exact cU (Kd.C_below HR322.out HB.out)); (case side2 => exact HC322.out); rintro e w' ⟨rfl, ⟨nd, rfl⟩⟩; refine ⟨_, rfl, ?_⟩))
     go_loopg [4, 5] kj1 (fun kq v4 v5 w' => ∃ (x4_2 : List (S26)) (x5_2 : Int), v5 = .int .i64 x5_2 ∧ Aside0 (impl_Rows.l0 kq t323 x4_2 x5_2 l0_0 l0_1 = some r) ∧ Aside0 (kq ≤ kj1) ∧ Aside0 (Kd.S k26 26 w' w.heap.size (fun k_ => k_ ≠ gb320) v4 x4_2) ∧ Aside0 (w'.heap[gb320]? = some (.cells #[(.slice A0_0 l0_0.length c0_0), (.slice A0_1 l0_1.length c0_1)] 26 (0, 0))) ∧ Aside0 (Below w.heap.size w w'))
     case atStart => exact ⟨(([] : List (S26))), (0), (by first | rfl | (simp; done) | (simp [*]; done)), H', ⟨Nat.le_refl _⟩, ⟨by first | exact Kd.S_nil _ _ _ _ _ | exact Kd.N_nil _ _ _ _ _ | exact Kd.V_nil _ _ _ _ _ | exact Kd.Q_nil _ _ _ _ _ | exact Kd.R_nil _ _ _ _ _⟩, ⟨by refine kU ?_; exact BK320.out⟩, ⟨by exact bS1 HB.out GE320.out⟩⟩
     case round =>
      clear H'
      try clear c1
      try clear p2
      try clear c3
      try clear c5
      try clear c11
      try clear c12
      try clear c12b0
      try clear c12b1
      try clear c15
      try clear hcz14_0
      try clear hcz14_1
      try clear hcz6_0
      try clear hcz6_1
      try clear hcz8_0
      try clear hcz8_1
      try clear hcz9_0
      try clear hcz9_1
      try clear hfz14_0
      try clear hfz14_1
      try clear hfz6_0
      try clear hfz6_1
      try clear hfz8_0
      try clear hfz8_1
      try clear hfz9_0
      try clear hfz9_1
      try clear p2
      obtain ⟨x4_2, x5_2, rfl, HA, HK2, HO_4, BK320, HB⟩ := hrel
      cases gk with
      | zero => exact absurd HA.out (by simp [impl_Rows.l0])
      | succ k2 =>
       have H := HA.out
       clear HA
       simp only [impl_Rows.l0] at H
       by_cases c16 : 0 < (l0_0.length : Int)
       ·
        rw [if_pos c16] at H
        have c16b0 : decide (0 < (l0_0.length : Int)) = true := decide_eq_true c16
        have c16b1 : decide (0 < l0_0.length) = true := decide_eq_true (by omega)
        clear c16
        by_cases c17 : x5_2 < (rd l0_0 0)
        ·
         rw [if_pos c17] at H
         have c17b0 : decide (x5_2 < (rd l0_0 0)) = true := decide_eq_true c17
         clear c17
         by_cases c18 : 1 ≤ (l0_0.length : Int)
         ·
          rw [if_pos c18] at H
          have c18b0 := eq_true c18
          have c18b1 : decide (1 ≤ (l0_0.length : Int)) = true := decide_eq_true c18
          clear c18
          obtain ⟨ji19, hji19⟩ : ∃ j_ : Int, (wrap64 (x5_2 * t323)) = j_ := ⟨_, rfl⟩
          replace H : (if 0 ≤ (ji19) then (if (ji19) ≤ (wrap64 ((wrap64 (x5_2 + 1)) * t323)) then (if (wrap64 ((wrap64 (x5_2 + 1)) * t323)) ≤ (l0_1.length : Int) then ((impl_copyArray.f (l0_0.drop 1) ((l0_1.take ((wrap64 ((wrap64 (x5_2 + 1)) * t323)) : Int).toNat).drop ((ji19) : Int).toNat)).bind fun bt327 => (if x4_2.length < 2932031007402 then (impl_Rows.l0 k2 t323 (x4_2 ++ [(⟨bt327.1, bt327.2⟩ : S26)]) (wrap64 (x5_2 + 1)) l0_0 l0_1) else (none))) else (none)) else (none)) else (none)) = some r := by first | (rw [hji19] at H; exact H) | (simp only [hji19] at H ⊢; exact H)
          have hji19w : (IntKind.i64.wrap (x5_2 * t323)) = ji19 := (i64_w _).trans hji19
          by_cases c20 : 0 ≤ (ji19)
          ·
           rw [if_pos c20] at H
           have c20b0 := eq_true c20
           have c20b1 : decide (0 ≤ (ji19)) = true := decide_eq_true c20
           clear c20
           by_cases c21 : (ji19) ≤ (wrap64 ((wrap64 (x5_2 + 1)) * t323))
           ·
            rw [if_pos c21] at H
            have c21b0 := eq_true c21
            have c21b1 : decide ((ji19) ≤ (wrap64 ((wrap64 (x5_2 + 1)) * t323))) = true := decide_eq_true c21
            by_cases c22 : (wrap64 ((wrap64 (x5_2 + 1)) * t323)) ≤ (l0_1.length : Int)
            ·
             rw [if_pos c22] at H
             have c22b0 := eq_true c22
             have c22b1 : decide ((wrap64 ((wrap64 (x5_2 + 1)) * t323)) ≤ (l0_1.length : Int)) = true := decide_eq_true c22
             replace H := Option.bind_eq_some_iff.mp H
             obtain ⟨⟨t327, t330⟩, A230, H⟩ := H
             replace H : (if x4_2.length < 2932031007402 then (impl_Rows.l0 k2 t323 (x4_2 ++ [(⟨t327, t330⟩ : S26)]) (wrap64 (x5_2 + 1)) l0_0 l0_1) else (none)) = some r := H
             have A23 := Aside0.mk A230
             clear A230
             by_cases c24 : x4_2.length < 2932031007402
             ·
              rw [if_pos c24] at H
              have LMc24 := Aside0.mk c24
              clear c24
              obtain ⟨y333, hy333⟩ : ∃ y_ : List (S26), y_ = (x4_2 ++ [(⟨t327, t330⟩ : S26)]) := ⟨_, rfl⟩
              replace H : (impl_Rows.l0 k2 t323 y333 (wrap64 (x5_2 + 1)) l0_0 l0_1) = some r := by first | (rw [hy333]; with_reducible exact H) | (have H2_ := (Option.bind_some _ _).symm.trans H; rw [hy333]; with_reducible exact H2_) | (have H2_ := (Option.bind_some _ _).symm.trans H; with_reducible exact H2_) | with_reducible exact H | (rw [hy333]; exact H) | exact H
              have Ny333 := Aside0.mk hy333
              clear hy333
              have H' := Aside0.mk H
              clear H
              have hcz25_0 : wr.cell? ⟨gb320, 0, none⟩ = some (.slice A0_0 l0_0.length c0_0) := (blk_cell BK320.out 0).trans rfl
              have hcz25_1 : wr.cell? ⟨gb320, 1, none⟩ = some (.slice A0_1 l0_1.length c0_1) := (blk_cell BK320.out 1).trans rfl
              have hfz25_0 := blk_frozen BK320.out 0
              have hfz25_1 := blk_frozen BK320.out 1
              have p324 : 0 ≤ (0 : Int) := (by omega)
              have q324 : 0 < (l0_0.length : Int) := of_decide_eq_true (by first | (with_reducible assumption) | assumption)
              obtain ⟨ad324, e324, hx324_0⟩ := Kd.at_int HR0_0.out 0 p324 q324
              cases e324
              have qi324 : (0 < l0_0.length) = True := eq_true (by omega)
              (try rw [show ((0 : Int)).toNat = 0 from rfl] at hx324_0)
              (try rw [Addr.add_zero'] at hx324_0)
              replace hx324_0 := (HB.out.cell (World.block_lt_of_cell? w _ hx324_0)).trans hx324_0
              replace p324 := eq_true p324
              replace q324 := eq_true q324
              try go_wp2
              replace HO_4 := Aside0.mk (Kd.S_drew HO_4.out)
              replace BK320 := Aside0.mk (blk_drew BK320.out)
              replace HB := Aside0.mk (below_drew1 HB.out)
              obtain ⟨i027, hi027, _, hsz27, _⟩ := info_parts info3
              (try clear hcut15)
              obtain ⟨A27, hcut27, hA27, hC27⟩ := print_drop_of (P := Try.prog) (Value.int .i64) 0 24 3 .i64 Try.underlying24 hi027 hsz27 (some ad324) c0_0 l0_0 1 (by omega) (of_decide_eq_true (by first | (with_reducible assumption) | assumption)) HC0_0.out
              have HR325 := Aside0.mk (Kd.C_of_reads (h1 := fun _ => rfl) (hA27 _ (Kd.reads_of_C HR0_0.out)))
              have HC325 := Aside0.mk hC27
              clear hA27 hC27 hi027 hsz27
              obtain ⟨i028, hi028, _, hsz28, _⟩ := info_parts info3
              obtain ⟨A28, hcut28, hA28, hC28⟩ := print_mid_of (P := Try.prog) (Value.int .i64) 0 24 3 .i64 .i64 Try.underlying24 hi028 hsz28 A0_1 c0_1 l0_1 (ji19) (wrap64 ((wrap64 (x5_2 + 1)) * t323)) (of_decide_eq_true (by first | (with_reducible assumption) | assumption)) (by first | omega | exact of_decide_eq_true (by first | (with_reducible assumption) | assumption)) (of_decide_eq_true (by first | (with_reducible assumption) | assumption)) HC0_1.out
              have HR326 := Aside0.mk (Kd.C_of_reads (h1 := fun _ => rfl) (hA28 _ (Kd.reads_of_C HR0_1.out)))
              have HC326 := Aside0.mk hC28
              clear hA28 hC28 hi028 hsz28
              refine start_ (n := 19) (S := fun w' => w'.cell? ⟨gb320, 0, none⟩ = some (.slice (some ad324) l0_0.length c0_0) ∧ w'.cell? ⟨gb320, 1, none⟩ = some (.slice A0_1 l0_1.length c0_1)) (ds := []) #[false, false, false, false, false, false, false, false, false, false, false, false, false, false, false, false, false, false, false] (by kernel_rfl) rfl rfl ⟨(blk_cell BK320.out 0).trans rfl, (blk_cell BK320.out 1).trans rfl⟩ (fun hHeld => ?_); refine with_tabW impl_Rows.tab8 impl_Rows.bits8 (fun HT_ HW_ => ?_)
              generalize wr.drew = w26 at HO_4 BK320 HB HR325 HR326 hHeld ⊢
              refine pure_ (i := 0) (N := some 27) (v := ?_) (a' := ?_) #[true, false, false, false, false, false, false, false, false, false, false, false, false, false, false, false, false, false, false] rfl rfl (any_of HT_.out (by kernel_rfl)) (fun _ _ _ h => h) (Or.inl ⟨by rfl, ?_⟩) ?_ ?_
              rotate_left
              ·
               intro w'
               go_simp
               with_reducible rfl
              rotate_left
              ·
               simp only [Act.put, List.setIfInBounds_toArray, List.set_cons_zero, List.set_cons_succ, i64_w, i32_w]
               rfl
              refine pure_ (i := 1) (N := some 28) (v := ?_) (a' := ?_) #[true, true, false, false, false, false, false, false, false, false, false, false, false, false, false, false, false, false, false] rfl rfl (any_of HT_.out (by kernel_rfl)) (fun _ _ _ h => h) (Or.inl ⟨by rfl, ?_⟩) ?_ ?_
              rotate_left
              ·
               intro w'
               go_simp
               with_reducible rfl
              rotate_left
              ·
               simp only [Act.put, List.setIfInBounds_toArray, List.set_cons_zero, List.set_cons_succ, i64_w, i32_w]
               rfl
              refine pure_ (i := 4) (N := some 31) (v := ?_) (a' := ?_) #[true, true, false, false, true, false, false, false, false, false, false, false, false, false, false, false, false, false, false] rfl rfl (any_of HT_.out (by kernel_rfl)) (fun _ _ _ h => h) (Or.inl ⟨by rfl, ?_⟩) ?_ ?_
              rotate_left
              ·
               intro w'
               go_simp
               with_reducible rfl
              rotate_left
              ·
               simp only [Act.put, List.setIfInBounds_toArray, List.set_cons_zero, List.set_cons_succ, i64_w, i32_w]
               rfl
              refine pure_ (i := 6) (N := some 33) (v := ?_) (a' := ?_) #[true, true, false, false, true, false, true, false, false, false, false, false, false, false, false, false, false, false, false] rfl rfl (any_of HT_.out (by kernel_rfl)) (fun _ _ _ h => h) (Or.inl ⟨by rfl, ?_⟩) ?_ ?_
              rotate_left
              ·
               intro w'
               go_simp
               with_reducible rfl
              rotate_left
              ·
               simp only [Act.put, List.setIfInBounds_toArray, List.set_cons_zero, List.set_cons_succ, i64_w, i32_w]
               rfl
              refine pure_ (i := 7) (N := some 34) (v := ?_) (a' := ?_) #[true, true, false, false, true, false, true, true, false, false, false, false, false, false, false, false, false, false, false] rfl rfl (any_of HT_.out (by kernel_rfl)) (fun _ _ _ h => h) (Or.inl ⟨by rfl, ?_⟩) ?_ ?_
              rotate_left
              ·
               intro w'
               go_simp
               with_reducible rfl
              rotate_left
              ·
               simp only [Act.put, List.setIfInBounds_toArray, List.set_cons_zero, List.set_cons_succ, i64_w, i32_w]
               rfl
              refine pure_ (i := 8) (N := some 35) (v := ?_) (a' := ?_) #[true, true, false, false, true, false, true, true, true, false, false, false, false, false, false, false, false, false, false] rfl rfl (any_of HT_.out (by kernel_rfl)) (fun _ _ _ h => h) (Or.inl ⟨by rfl, ?_⟩) ?_ ?_
              rotate_left
              ·
               intro w'
               go_simp
               with_reducible rfl
              rotate_left
              ·
               simp only [Act.put, List.setIfInBounds_toArray, List.set_cons_zero, List.set_cons_succ, i64_w, i32_w]
               rfl
              refine pure_ (i := 9) (N := some 36) (v := ?_) (a' := ?_) #[true, true, false, false, true, false, true, true, true, true, false, false, false, false, false, false, false, false, false] rfl rfl (any_of HT_.out (by kernel_rfl)) (fun _ _ _ h => h) (Or.inl ⟨by rfl, ?_⟩) ?_ ?_
              rotate_left
              ·
               intro w'
               go_simp
               with_reducible rfl
              rotate_left
              ·
               simp only [Act.put, List.setIfInBounds_toArray, List.set_cons_zero, List.set_cons_succ, i64_w, i32_w]
               rfl
              refine pure_ (i := 10) (N := some 37) (v := ?_) (a' := ?_) #[true, true, false, false, true, false, true, true, true, true, true, false, false, false, false, false, false, false, false] rfl rfl (any_of HT_.out (by kernel_rfl)) (fun _ _ _ h => h) (Or.inl ⟨by rfl, ?_⟩) ?_ ?_
              rotate_left
              ·
               intro w'
               go_simp
               with_reducible rfl
              rotate_left
              ·
               simp only [Act.put, List.setIfInBounds_toArray, List.set_cons_zero, List.set_cons_succ, i64_w, i32_w]
               rfl
              refine pure_ (i := 11) (N := some 38) (v := ?_) (a' := ?_) #[true, true, false, false, true, false, true, true, true, true, true, true, false, false, false, false, false, false, false] rfl rfl (any_of HT_.out (by kernel_rfl)) (fun _ _ _ h => h) (Or.inl ⟨by rfl, ?_⟩) ?_ ?_
              rotate_left
              ·
               intro w'
               go_simp
               with_reducible rfl
              rotate_left
              ·
               simp only [Act.put, List.setIfInBounds_toArray, List.set_cons_zero, List.set_cons_succ, i64_w, i32_w]
               rfl
              refine pure_ (i := 12) (N := some 39) (v := ?_) (a' := ?_) #[true, true, false, false, true, false, true, true, true, true, true, true, true, false, false, false, false, false, false] rfl rfl (any_of HT_.out (by kernel_rfl)) (fun _ _ _ h => h) (Or.inl ⟨by rfl, ?_⟩) ?_ ?_
              rotate_left
              ·
               intro w'
               go_simp
               with_reducible rfl
              rotate_left
              ·
               simp only [Act.put, List.setIfInBounds_toArray, List.set_cons_zero, List.set_cons_succ, i64_w, i32_w]
               rfl
              refine take_ (i := 2) (N := some 29) (v := ?_) (a' := ?_) #[true, true, true, false, true, false, true, true, true, true, true, true, true, false, false, false, false, false, false] rfl rfl (take_ofW HT_.out HW_.out (by kernel_rfl)) (fun _ _ _ h => h) (Or.inl ⟨by rfl, ?_⟩) hHeld ?_ ?_
              rotate_left
              ·
               rintro w' ⟨s0, s1⟩
               go_simp
               with_reducible rfl
              rotate_left
              ·
               simp only [Act.put, List.setIfInBounds_toArray, List.set_cons_zero, List.set_cons_succ, i64_w, i32_w]
               rfl
              refine pure_ (i := 3) (N := some 30) (v := ?_) (a' := ?_) #[true, true, true, true, true, false, true, true, true, true, true, true, true, false, false, false, false, false, false] rfl rfl (any_of HT_.out (by kernel_rfl)) (fun _ _ _ h => h) (Or.inl ⟨by rfl, ?_⟩) ?_ ?_
              rotate_left
              ·
               intro w'
               go_simp
               with_reducible rfl
              rotate_left
              ·
               simp only [Act.put, List.setIfInBounds_toArray, List.set_cons_zero, List.set_cons_succ, i64_w, i32_w]
               rfl
              refine take_ (i := 5) (N := some 32) (v := ?_) (a' := ?_) #[true, true, true, true, true, true, true, true, true, true, true, true, true, false, false, false, false, false, false] rfl rfl (take_ofW HT_.out HW_.out (by kernel_rfl)) (fun _ _ _ h => h) (Or.inl ⟨by rfl, ?_⟩) hHeld ?_ ?_
              rotate_left
              ·
               rintro w' ⟨s0, s1⟩
               go_simp
               with_reducible rfl
              rotate_left
              ·
               simp only [Act.put, List.setIfInBounds_toArray, List.set_cons_zero, List.set_cons_succ, i64_w, i32_w]
               rfl
              refine pure_ (i := 13) (N := some 40) (v := ?_) (a' := ?_) #[true, true, true, true, true, true, true, true, true, true, true, true, true, true, false, false, false, false, false] rfl rfl (any_of HT_.out (by kernel_rfl)) (fun _ _ _ h => h) (Or.inl ⟨by rfl, ?_⟩) ?_ ?_
              rotate_left
              ·
               intro w'
               go_simp
               with_reducible rfl
              rotate_left
              ·
               simp only [Act.put, List.setIfInBounds_toArray, List.set_cons_zero, List.set_cons_succ, i64_w, i32_w]
               rfl
              refine pure_ (i := 14) (N := some 41) (v := ?_) (a' := ?_) #[true, true, true, true, true, true, true, true, true, true, true, true, true, true, true, false, false, false, false] rfl rfl (any_of HT_.out (by kernel_rfl)) (fun _ _ _ h => h) (Or.inl ⟨by rfl, ?_⟩) ?_ ?_
              rotate_left
              ·
               intro w'
               go_simp
               with_reducible rfl
              rotate_left
              ·
               simp only [Act.put, List.setIfInBounds_toArray, List.set_cons_zero, List.set_cons_succ, i64_w, i32_w]
               rfl
              refine one_ (i := 15) (N := some 42) #[true, true, true, true, true, true, true, true, true, true, true, true, true, true, true, true, false, false, false] rfl rfl (one_of HT_.out (by kernel_rfl)) (by decide) (fun K hK => ?_)
              refine goes_ Try.func16 (by kernel_rfl) rfl #[.agg #[.slice A27 (l0_0.drop 1).length (c0_0 - 1), .slice A28 ((l0_1.take ((wrap64 ((wrap64 (x5_2 + 1)) * t323)) : Int).toNat).drop ((ji19) : Int).toNat).length (c0_1 - (ji19).toNat)]] (by rfl) rfl rfl (by (try simp only [List.map_toArray, List.map_cons, List.map_nil]); first | done | (rw [show (l0_0.drop 1).length = (l0_0.length - 1) from List.length_drop] <;> rfl) | (rw [show ((l0_1.take ((wrap64 ((wrap64 (x5_2 + 1)) * t323)) : Int).toNat).drop ((ji19) : Int).toNat).length = ((wrap64 ((wrap64 (x5_2 + 1)) * t323)).toNat - (ji19).toNat) from (by rw [List.length_drop, List.length_take]; have h_ : ((wrap64 ((wrap64 (x5_2 + 1)) * t323)) : Int) ≤ (l0_1.length : Int) := of_decide_eq_true (by first | (with_reducible assumption) | assumption); omega)] <;> rfl) | (simp only [hji19]; rfl) | rfl | (simp only [List.length_drop, List.length_take]; rfl) | (rw [show (l0_0.drop 1).length = (l0_0.length - 1) from List.length_drop, show ((l0_1.take ((wrap64 ((wrap64 (x5_2 + 1)) * t323)) : Int).toNat).drop ((ji19) : Int).toNat).length = ((wrap64 ((wrap64 (x5_2 + 1)) * t323)).toNat - (ji19).toNat) from (by rw [List.length_drop, List.length_take]; have h_ : ((wrap64 ((wrap64 (x5_2 + 1)) * t323)) : Int) ≤ (l0_1.length : Int) := of_decide_eq_true (by first | (with_reducible assumption) | assumption); omega)] <;> rfl)) ?_
              with_reducible refine (impl_copyArray.calls _ _ (l0_0.drop 1) _ _ ((l0_1.take ((wrap64 ((wrap64 (x5_2 + 1)) * t323)) : Int).toNat).drop ((ji19) : Int).toNat) t327 t330 _ ?side1 ?side2 ?side3 ?side4 A23.out).mono ?_
              (case side1 => exact cU (Kd.C_below HR325.out HB.out))
              (case side2 => exact HC325.out)
              (case side3 => exact cU (Kd.C_below HR326.out HB.out))
              (case side4 => exact HC326.out)
              rintro e w29 ⟨v328, v331, rfl, ho0, ho1, hb⟩
              refine ⟨_, rfl, ?_⟩
              replace HO_4 := Aside0.mk (Kd.S_mono (Kd.S_told (Kd.S_told (Kd.S_old (SU HO_4.out) hb) (Kd.R_base ho0)) (Kd.R_base ho1)) (fun _ h_ => h_.1))
              have HO329 := Aside0.mk (Kd.R_lower ho0 (below_size (bS1 HB.out GE320.out)))
              have HO332 := Aside0.mk (Kd.R_lower ho1 (below_size (bS1 HB.out GE320.out)))
              replace BK320 := Aside0.mk (kB BK320.out hb)
              replace HB := Aside0.mk (below_step (bS1 HB.out GE320.out) hb)
              (try clear hb)
              (try clear hb2)
              (try clear hk)
              (try clear hi)
              (try clear ho0)
              (try clear ho1)
              obtain ⟨Ao31, co31, eo31⟩ := Kd.R_slice HO329.out
              (first | subst eo31 | (injection eo31 with f1_ f2_ f3_; have f4_ := f1_.symm; have f5_ := f3_.symm; clear f1_ f2_ f3_; subst f4_; subst f5_))
              obtain ⟨Ao32, co32, eo32⟩ := Kd.R_slice HO332.out
              (first | subst eo32 | (injection eo32 with f1_ f2_ f3_; have f4_ := f1_.symm; have f5_ := f3_.symm; clear f1_ f2_ f3_; subst f4_; subst f5_))
              refine hK.out _ _ ⟨(blk_cell BK320.out 0).trans rfl, (blk_cell BK320.out 1).trans rfl⟩ (fun hHeld => ?_)
              clear hK K
              refine norm_ (a' := ?_) ?_ ?_
              rotate_left
              ·
               show Act.put _ (some 42) _ = _
               simp only [Act.put, List.setIfInBounds_toArray, List.set_cons_zero, List.set_cons_succ, i64_w, i32_w]
               rfl
              refine one_ (i := 16) (N := some 43) #[true, true, true, true, true, true, true, true, true, true, true, true, true, true, true, true, true, false, false] rfl rfl (one_of HT_.out (by kernel_rfl)) (by decide) (fun K hK => ?_)
              refine value_ (w1 := ?_) (v := ?_) (by rfl) rfl ?_ ?_
              rotate_left 2
              ·
               go_simp
               constructor
               ·
                rfl
               ·
                rfl
              refine hK.out _ _ ⟨(blk_cell (blk_alloc BK320.out _) 0).trans rfl, (blk_cell (blk_alloc BK320.out _) 1).trans rfl⟩ (fun hHeld => ?_)
              clear hK K
              refine norm_ (a' := ?_) ?_ ?_
              rotate_left
              ·
               show Act.put _ (some 43) _ = _
               simp only [Act.put, List.setIfInBounds_toArray, List.set_cons_zero, List.set_cons_succ, i64_w, i32_w]
               rfl
              refine one_ (i := 17) (N := some 44) #[true, true, true, true, true, true, true, true, true, true, true, true, true, true, true, true, true, true, false] rfl rfl (one_of HT_.out (by kernel_rfl)) (by decide) (fun K hK => ?_)
              refine Kd.S_append_step k26 (w0 := w) w.heap.size (by rfl) (.tmp 27) (.tmp 43) 40 26 (.agg #[(.slice none 0 0), (.slice none 0 0)]) 48 rfl Try.underlying40 info26 rfl (by decide) (by omega) u4 x4_2 (⟨t327, t330⟩ : S26) [.slice Ao31 t327.length co31, .slice Ao32 t330.length co32] (fun k_ => k_ ≠ gb320) (fun k_ => some k_ = (.slice Ao31 t327.length co31 : Value).ownBlock ∨ some k_ = (.slice Ao32 t330.length co32 : Value).ownBlock) rfl rfl ?aP (fun k_ hk_ => hk_.elim (fun h_ => ((Kd.R_mono (ok' := fun k_ => ((fun k_ => k_ ≠ gb320)) k_ ∧ some k_ ≠ (u4 : Value).ownBlock) (Kd.R_types (Kd.R_apart' (HO329.out) (Kd.S_typed HO_4.out) (by decide)) BK320.out (by decide)) (fun k_ hk => ⟨hk.2, hk.1.2⟩))).1 k_ h_.symm) (fun h_ => ((Kd.R_mono (ok' := fun k_ => ((fun k_ => k_ ≠ gb320)) k_ ∧ some k_ ≠ (u4 : Value).ownBlock) (Kd.R_types (Kd.R_apart' (HO332.out) (Kd.S_typed HO_4.out) (by decide)) BK320.out (by decide)) (fun k_ hk => ⟨hk.2, hk.1.2⟩))).1 k_ h_.symm)) ?aF ?aO ?aB ?aS ?aL ?_
              (case aP => exact k26_mkM _ _ _ (⟨t327, t330⟩ : S26) (Kd.R_mono (Kd.R_tight rfl (Kd.R_mono (ok' := fun k_ => ((fun k_ => k_ ≠ gb320)) k_ ∧ some k_ ≠ (u4 : Value).ownBlock) (Kd.R_types (Kd.R_apart' (HO329.out) (Kd.S_typed HO_4.out) (by decide)) BK320.out (by decide)) (fun k_ hk => ⟨hk.2, hk.1.2⟩))) (fun _ h_ => Or.inl h_)) (Kd.R_mono (Kd.R_tight rfl (Kd.R_mono (ok' := fun k_ => ((fun k_ => k_ ≠ gb320)) k_ ∧ some k_ ≠ (u4 : Value).ownBlock) (Kd.R_types (Kd.R_apart' (HO332.out) (Kd.S_typed HO_4.out) (by decide)) BK320.out (by decide)) (fun k_ hk => ⟨hk.2, hk.1.2⟩))) (fun _ h_ => Or.inr (h_))))
              (case aB => exact (bS1 HB.out GE320.out))
              (case aF => exact (fun k_ hk => Kd.freshB (g := gb320) (o := .cells #[.slice (some ad324) l0_0.length c0_0, .slice A0_1 l0_1.length c0_1] 26 (0, 0)) (kU BK320.out) k_ hk))
              (case aO => exact (by refine SU ?_; exact Kd.S_mono HO_4.out (fun k_ hk => ⟨hk.1.1, fun e_ => e_.elim (fun h_ => hk.1.2 h_) (fun h_ => hk.2 h_)⟩)))
              (case aS => exact (below_size (bS1 HB.out GE320.out)))
              (case aL => have := LMc24.out; omega)
              intro v334 w30 ho hb hg hat
              rw [← Ny333.out] at ho
              have n0_ := Aside0.mk (blk_grown (g := gb320) (o := .cells #[.slice (some ad324) l0_0.length c0_0, .slice A0_1 l0_1.length c0_1] 26 (0, 0)) (kU BK320.out) hg (Kd.S_away HO_4.out (fun _ hk => hk.1.1)))
              have n1_ := Aside0.mk (hb)
              have n2_ := Aside0.mk (ho)
              clear BK320 HB HO_4 HO329 HO332
              have BK320 := n0_
              have HB := n1_
              have HO335 := n2_
              clear n0_ n1_ n2_
              clear ho hb hg hat
              refine hK.out _ _ ⟨(blk_cell BK320.out 0).trans rfl, (blk_cell BK320.out 1).trans rfl⟩ (fun hHeld => ?_)
              clear hK K
              refine norm_ (a' := ?_) ?_ ?_
              rotate_left
              ·
               show Act.put _ (some 44) _ = _
               simp only [Act.put, List.setIfInBounds_toArray, List.set_cons_zero, List.set_cons_succ, i64_w, i32_w]
               rfl
              refine pure_ (i := 18) (N := some 4) (v := ?_) (a' := ?_) #[true, true, true, true, true, true, true, true, true, true, true, true, true, true, true, true, true, true, true] rfl rfl (any_of HT_.out (by kernel_rfl)) (fun _ _ _ h => h) (Or.inl ⟨by rfl, ?_⟩) ?_ ?_
              rotate_left
              ·
               intro w'
               go_simp
               with_reducible rfl
              rotate_left
              ·
               simp only [Act.put, List.setIfInBounds_toArray, List.set_cons_zero, List.set_cons_succ, i64_w, i32_w]
               rfl
              refine done_ (done_of HT_.out (by kernel_rfl)) ?_
              try go_wp2
              go_roundg k2
              case measure => have := HJ1.out; have := HK2.out; omega
              case rel => exact ⟨(y333), (wrap64 (x5_2 + 1)), (by first | rfl | (simp; done) | (simp [*]; done)), H', ⟨by have := HJ1.out; have := HK2.out; omega⟩, ⟨by refine SU ?_; exact HO335.out⟩, ⟨by refine kU ?_; exact BK320.out⟩, ⟨by exact bS1 HB.out GE320.out⟩⟩
             ·
              rw [if_neg c24] at H
              exact absurd H (by simp)
            ·
             rw [if_neg c22] at H
             exact absurd H (by simp)
           ·
            rw [if_neg c21] at H
            exact absurd H (by simp)
          ·
           rw [if_neg c20] at H
           exact absurd H (by simp)
         ·
          rw [if_neg c18] at H
          exact absurd H (by simp)
        ·
         rw [if_neg c17] at H
         have c17b0 : decide (x5_2 < (rd l0_0 0)) = false := decide_eq_false c17
         clear c17
         obtain rfl := Option.some.inj H
         have hcz33_0 : wr.cell? ⟨gb320, 0, none⟩ = some (.slice A0_0 l0_0.length c0_0) := (blk_cell BK320.out 0).trans rfl
         have hcz33_1 : wr.cell? ⟨gb320, 1, none⟩ = some (.slice A0_1 l0_1.length c0_1) := (blk_cell BK320.out 1).trans rfl
         have hfz33_0 := blk_frozen BK320.out 0
         have hfz33_1 := blk_frozen BK320.out 1
         have p324 : 0 ≤ (0 : Int) := (by omega)
         have q324 : 0 < (l0_0.length : Int) := of_decide_eq_true (by first | (with_reducible assumption) | assumption)
         obtain ⟨ad324, e324, hx324_0⟩ := Kd.at_int HR0_0.out 0 p324 q324
         cases e324
         have qi324 : (0 < l0_0.length) = True := eq_true (by omega)
         (try rw [show ((0 : Int)).toNat = 0 from rfl] at hx324_0)
         (try rw [Addr.add_zero'] at hx324_0)
         replace hx324_0 := (HB.out.cell (World.block_lt_of_cell? w _ hx324_0)).trans hx324_0
         replace p324 := eq_true p324
         replace q324 := eq_true q324
         go_wp2
         go_ret
         exact ⟨_, by first | rfl | (simp [errW_none, errW_some] <;> rfl) | (simp [*, errW_none, errW_some] <;> rfl), by refine SU ?_; exact Kd.S_mono HO_4.out (fun _ hk => trivial), by exact bS1 HB.out GE320.out⟩
       ·
        rw [if_neg c16] at H
        exact absurd H (by simp)
    ·
     rw [if_neg c12] at H
     exact absurd H (by simp)

-- NOT PRINTED: function 18 (impl_Array)

/-! ### impl_joined: function 19 -/
def impl_joined.l0 : Nat → List (S26) → Int → Int → List Int → List Int → Option (List Int × List Int × Int)
 | 0, _, _, _, _, _ => none
 | k + 1, x15, x16, x17, x346000, x346001 => if x17 < x16 then (if 0 ≤ x17 then (if x17 < (x15.length : Int) then (if x346001.length + ((rd_T26 x15 x17).f1).length < 17592186044416 then (impl_joined.l0 k x15 x16 (wrap64 (x17 + 1)) x346000 (x346001 ++ ((rd_T26 x15 x17).f1))) else (none)) else (none)) else (none)) else ((impl_ArrayOk.f k x346000 x346001).bind fun t351 => (if t351 = true then (some (x346000, x346001, 0)) else (some (([] : List Int), ([] : List Int), 6))))
def impl_joined.f (k : Nat) (l0 : List (S26)) (l1 : List Int) : Option (List Int × List Int × Int) := (some (([(l0.length : Int)] : List Int) : List Int)).bind fun y339 => (if y339.length + l1.length < 17592186044416 then (impl_joined.l0 k l0 (l0.length : Int) 0 (y339 ++ l1) ([] : List Int)) else (none))
set_option maxHeartbeats 8000000 in
set_option maxRecDepth 100000 in
theorem impl_joined.calls (k : Nat) (A0 : Option Addr) (c0 : Nat) (l0 : List (S26)) (A1 : Option Addr) (c1 : Nat) (l1 : List Int) (r1 : List Int) (r2 : List Int) (r3 : Int) (w : World) (hr0 : Kd.C k26 w A0 l0.length l0) (hc0 : l0.length ≤ c0) (hr1 : Kd.C (Kd.int .i64) w A1 l1.length l1) (hc1 : l1.length ≤ c1) (h : impl_joined.f k l0 l1 = some (r1, r2, r3)) :
  Calls Try.prog 19 #[.slice A0 l0.length c0, .slice A1 l1.length c1] w fun e w' => ∃ v0_ v1_ : Value, e = .returned (.tuple #[.agg #[v0_, v1_], .int .i64 r3]) ∧ Kd.R (Kd.int .i64) 3 w' w.heap.size (fun k_ => some k_ ≠ (v1_ : Value).ownBlock) v0_ r1 ∧ Kd.R (Kd.int .i64) 3 w' w.heap.size (fun k_ => some k_ ≠ (v0_ : Value).ownBlock) v1_ r2 ∧ Below w.heap.size w w' := by
 have hu26 := Try.underlying26
 have HR0 := Aside0.mk hr0
 have HC0 := Aside0.mk hc0
 clear hr0 hc0
 have HR1 := Aside0.mk hr1
 have HC1 := Aside0.mk hc1
 clear hr1 hc1
 have HB := Aside0.mk (Below.refl w.heap.size w)
 have H : ((some (([(l0.length : Int)] : List Int) : List Int)).bind fun y339 => (if y339.length + l1.length < 17592186044416 then (impl_joined.l0 k l0 (l0.length : Int) 0 (y339 ++ l1) ([] : List Int)) else (none))) = some (r1, r2, r3) := h
 clear h
 obtain ⟨y339, hy339⟩ : ∃ y_ : List Int, y_ = (([(l0.length : Int)] : List Int)) := ⟨_, rfl⟩
 replace H : (if y339.length + l1.length < 17592186044416 then (impl_joined.l0 k l0 (l0.length : Int) 0 (y339 ++ l1) ([] : List Int)) else (none)) = some (r1, r2, r3) := by first | (rw [hy339]; with_reducible exact H) | (have H2_ := (Option.bind_some _ _).symm.trans H; rw [hy339]; with_reducible exact H2_) | (have H2_ := (Option.bind_some _ _).symm.trans H; with_reducible exact H2_) | with_reducible exact H | (rw [hy339]; exact H) | exact H
 have Ny339 := Aside0.mk hy339
 clear hy339
 by_cases c3 : y339.length + l1.length < 17592186044416
 ·
  rw [if_pos c3] at H
  have LMc3 := Aside0.mk c3
  clear c3
  obtain ⟨y342, hy342⟩ : ∃ y_ : List Int, y_ = (y339 ++ l1) := ⟨_, rfl⟩
  replace H : (impl_joined.l0 k l0 (l0.length : Int) 0 y342 ([] : List Int)) = some (r1, r2, r3) := by first | (rw [hy342]; with_reducible exact H) | (have H2_ := (Option.bind_some _ _).symm.trans H; rw [hy342]; with_reducible exact H2_) | (have H2_ := (Option.bind_some _ _).symm.trans H; with_reducible exact H2_) | with_reducible exact H | (rw [hy342]; exact H) | exact H
  have Ny342 := Aside0.mk hy342
  clear hy342
  have H' := Aside0.mk H
  clear H
  go_enter Try.func19, Try.ntmps19
  go_wp2_with (first | ((with_reducible refine gate_dst (N := 4) rfl ?_); refine box_event ?hg (N := 4) ?hd (cs := #[.slice none 0 0, .slice none 0 0]) (t := 26) ?hr ?_; (case hd => rfl); (case hg => rfl); (case hr => first | (go_simp; done) | (go_simp; rfl)); intro gb338 hg w4 hbox hb; have BK338 := Aside0.mk (hbox); have GW338 := Aside0.mk ((by rw [hg]; exact (below_size (bU HB.out)) : w.heap.size ≤ gb338)); have GE338 := Aside0.mk ((by rw [hg]; exact (below_size (bU HB.out)) : w.heap.size ≤ gb338)); replace HB := Aside0.mk (below_step (bU HB.out) hb); clear hb hbox hg) | ((with_reducible refine gate_dst (N := 11) rfl ?_); refine Kd.R_lit (Kd.int .i64) _ 3 ?hg (N := 11) ?hd (xs := ([(l0.length : Int)] : List Int)) (inner := [.int .i64 (l0.length : Int)]) (ok := fun _ => True) (okp := fun _ => True) ?hr ?hp (fun _ hk => hk) trivial (Below.refl _ _) (Nat.le_refl _) (by simp) ?_; (case hd => rfl); (case hg => rfl); (case hr => first | (go_simp; done) | (go_simp; rfl)); (case hp => exact (Reps.one (show Kd.M (Kd.int .i64) _ _ _ (l0.length : Int) [.int .i64 (l0.length : Int)] from rfl) (Reps.none _ _))); intro v340 w5 ho6 hb hg_ hnew_; clear hg_ hnew_; (first | rw [← Ny339.out] at ho6 | (simp only [Int.reduceToNat] at ho6; rw [← Ny339.out] at ho6)); have HO341 := Aside0.mk (Kd.R_lower ho6 (below_size (bS1 HB.out GE338.out))); replace BK338 := Aside0.mk (kB BK338.out hb); replace HB := Aside0.mk (below_step (bS1 HB.out GE338.out) hb); clear hb ho6) | ((with_reducible refine gate_builtin (b := .append) (xs := #[.tmp 11, .tmp 12]) rfl ?_); at_builtin; refine Kd.R_append_rows (Kd.int .i64) (w0 := w) w.heap.size rfl (.tmp 11) (.tmp 12) 24 3 (.int .i64 0) 8 rfl Try.underlying24 info3 rfl (by decide) (by omega) v340 y339 l1 _ _ _ (fun _ => True) (fun _ => False) rfl rfl ?aO ?aR (fun _ _ h => h) (fun _ h => h.elim) ?aF ?aB ?aS ?aL ?_; (case aR => exact cU (Kd.C_below HR1.out HB.out)); (case aB => exact (bS1 HB.out GE338.out)); (case aF => exact (fun _ _ => trivial)); (case aO => exact (RU HO341.out)); (case aS => exact (below_size (bS1 HB.out GE338.out))); (case aL => have := LMc3.out; omega); intro v343 w7 ho hb hg hat; rw [← Ny342.out] at ho; have n0_ := Aside0.mk (blk_grown (g := gb338) (o := .cells #[.slice none 0 0, .slice none 0 0] 26 (0, 0)) (kU BK338.out) hg (Kd.R_ne HO341.out BK338.out (by decide))); have n1_ := Aside0.mk (hb); have n2_ := Aside0.mk (ho); clear BK338; clear HB; clear HO341; have BK338 := n0_; have HB := n1_; have HO344 := n2_; clear n0_ n1_ n2_; clear ho hb hg hat; obtain ⟨Ao8, co8, eo8⟩ := Kd.R_slice HO344.out; subst eo8) | ((with_reducible refine gate_dst (N := 6) rfl ?_); refine box_event ?hg (N := 6) ?hd (cs := #[.slice none 0 0, .slice none 0 0]) (t := 26) ?hr ?_; (case hd => rfl); (case hg => rfl); (case hr => first | (go_simp; done) | (go_simp; rfl)); intro gb345 hg w9 hbox hb; replace HO344 := Aside0.mk (Kd.R_below (RU HO344.out) hb); have BK345 := Aside0.mk (hbox); have GW345 := Aside0.mk ((by rw [hg]; exact (below_size (bS1 HB.out GE338.out)) : w.heap.size ≤ gb345)); have GE345 := Aside0.mk ((by rw [hg]; exact (below_size (bS1 HB.out GE338.out)) : w.heap.size ≤ gb345)); replace HB := Aside0.mk (below_step (bS1 HB.out GE338.out) hb); have NB338_345 := Aside0.mk (kN BK338.out hg); have NB345_338 := Aside0.mk (kM BK338.out hg); replace BK338 := Aside0.mk (kB BK338.out hb); clear hb hbox hg; have hnb10 := NB345_338.out; have hnc10 := NB338_345.out; have hcz11_0 : w9.cell? ⟨gb345, 0, none⟩ = some (.slice none 0 0) := (blk_cell BK345.out 0).trans rfl; have hcz11_1 : w9.cell? ⟨gb345, 1, none⟩ = some (.slice none 0 0) := (blk_cell BK345.out 1).trans rfl; have hfz11_0 := blk_frozen BK345.out 0; have hfz11_1 := blk_frozen BK345.out 1))
  go_loopg [17] k (fun kq v17 w' => ∃ (x17_1 : Int) (x346001_1 : List Int) (u346001 : Value), v17 = .int .i64 x17_1 ∧ Aside0 (impl_joined.l0 kq l0 (l0.length : Int) x17_1 y342 x346001_1 = some (r1, r2, r3)) ∧ Aside0 (kq ≤ k) ∧ Aside0 (Kd.R (Kd.int .i64) 3 w' w.heap.size (fun k_ => some k_ ≠ (u346001 : Value).ownBlock) (.slice Ao8 y342.length co8) y342) ∧ Aside0 (Kd.R (Kd.int .i64) 3 w' w.heap.size (fun k_ => some k_ ≠ ((.slice Ao8 y342.length co8) : Value).ownBlock) u346001 x346001_1) ∧ Aside0 (w'.heap[gb338]? = some (.cells #[(.slice none 0 0), (.slice none 0 0)] 26 (0, 0))) ∧ Aside0 (w'.heap[gb345]? = some (.cells #[(.slice Ao8 y342.length co8), u346001] 26 (0, 0))) ∧ Aside0 (Below w.heap.size w w'))
  case atStart => exact ⟨(0), (([] : List Int)), (.slice none 0 0), (by first | rfl | (simp; done) | (simp [*]; done)), H', ⟨Nat.le_refl _⟩, ⟨by refine RU ?_; exact Kd.R_mono (Kd.R_far (p := ⟨gb345, 1, none⟩) (Kd.R_far (p := ⟨gb345, 0, none⟩) (Kd.R_types HO344.out BK345.out (by decide)) (fun _ hk => hk.2) (.slice Ao8 y342.length co8)) (fun _ hk => hk.2) (.slice none 0 0)) (fun _ hk => (by simp [Value.ownBlock]))⟩, ⟨by first | exact Kd.R_nil _ _ _ _ _ | exact Kd.N_nil _ _ _ _ _ | exact Kd.V_nil _ _ _ _ _ | exact Kd.Q_nil _ _ _ _ _ | exact Kd.S_nil _ _ _ _ _⟩, ⟨by refine kU ?_; refine blk_far ?_ NB338_345.out _; refine kU ?_; refine blk_far ?_ NB338_345.out _; refine kU ?_; exact BK338.out⟩, ⟨by refine kU ?_; refine blk_put (cs := #[.slice Ao8 y342.length co8, .slice none 0 0]) ?_ 1 _ rfl; refine kU ?_; refine blk_put (cs := #[.slice none 0 0, .slice none 0 0]) ?_ 0 _ rfl; refine kU ?_; exact BK345.out⟩, ⟨by exact bS2 HB.out GE338.out GE345.out⟩⟩
  case round =>
   clear H'
   try clear c1
   try clear p2
   try clear c3
   try clear c10
   try clear hcz11_0
   try clear hcz11_1
   try clear hfz11_0
   try clear hfz11_1
   obtain ⟨x17_1, x346001_1, u346001, rfl, HA, HK1, HO_346000, HO_346001, BK338, BK345, HB⟩ := hrel
   cases gk with
   | zero => exact absurd HA.out (by simp [impl_joined.l0])
   | succ k1 =>
    have H := HA.out
    clear HA
    simp only [impl_joined.l0] at H
    by_cases c12 : x17_1 < (l0.length : Int)
    ·
     rw [if_pos c12] at H
     have c12b0 : decide (x17_1 < (l0.length : Int)) = true := decide_eq_true c12
     clear c12
     by_cases c13 : 0 ≤ x17_1
     ·
      rw [if_pos c13] at H
      have c13b0 : decide (0 ≤ x17_1) = true := decide_eq_true c13
      clear c13
      by_cases c14 : x17_1 < (l0.length : Int)
      ·
       rw [if_pos c14] at H
       have c14b0 : decide (x17_1 < (l0.length : Int)) = true := decide_eq_true c14
       clear c14
       by_cases c15 : x346001_1.length + ((rd_T26 l0 x17_1).f1).length < 17592186044416
       ·
        rw [if_pos c15] at H
        have LMc15 := Aside0.mk c15
        clear c15
        obtain ⟨y348, hy348⟩ : ∃ y_ : List Int, y_ = (x346001_1 ++ ((rd_T26 l0 x17_1).f1)) := ⟨_, rfl⟩
        replace H : (impl_joined.l0 k1 l0 (l0.length : Int) (wrap64 (x17_1 + 1)) y342 y348) = some (r1, r2, r3) := by first | (rw [hy348]; with_reducible exact H) | (have H2_ := (Option.bind_some _ _).symm.trans H; rw [hy348]; with_reducible exact H2_) | (have H2_ := (Option.bind_some _ _).symm.trans H; with_reducible exact H2_) | with_reducible exact H | (rw [hy348]; exact H) | exact H
        have Ny348 := Aside0.mk hy348
        clear hy348
        have H' := Aside0.mk H
        clear H
        have p346 : 0 ≤ (x17_1 : Int) := of_decide_eq_true (by first | (with_reducible assumption) | assumption)
        have q346 : x17_1 < (l0.length : Int) := of_decide_eq_true (by first | (with_reducible assumption) | assumption)
        obtain ⟨ad346, A346_0, c346_0, A346_1, c346_1, e346, hx346_0, hx346_1, hl346_0, hi346_0, hl346_1, hi346_1⟩ := at_T26 HR0.out x17_1 p346 q346
        cases e346
        replace hx346_0 := (HB.out.cell (World.block_lt_of_cell? w _ hx346_0)).trans hx346_0
        replace hx346_1 := (HB.out.cell (World.block_lt_of_cell? w _ hx346_1)).trans hx346_1
        have HR346_0 := Aside0.mk hi346_0
        have HC346_0 := Aside0.mk hl346_0
        clear hi346_0 hl346_0
        have HR346_1 := Aside0.mk hi346_1
        have HC346_1 := Aside0.mk hl346_1
        clear hi346_1 hl346_1
        replace p346 := eq_true p346
        replace q346 := eq_true q346
        go_wp2_with (first | ((with_reducible refine gate_dst (N := 8) rfl ?_); refine box_event ?hg (N := 8) ?hd (cs := #[.slice none 0 0, .slice none 0 0]) (t := 26) ?hr ?_; (case hd => rfl); (case hg => rfl); (case hr => first | (go_simp; done) | (go_simp; rfl)); intro gb347 hg w16 hbox hb; replace HO_346000 := Aside0.mk (Kd.R_below (RU HO_346000.out) hb); replace HO_346001 := Aside0.mk (Kd.R_below (RU HO_346001.out) hb); have BK347 := Aside0.mk (hbox); have GW347 := Aside0.mk ((by rw [hg]; exact (below_size (bS2 HB.out GE338.out GE345.out)) : w.heap.size ≤ gb347)); have GE347 := Aside0.mk ((by rw [hg]; exact (below_size (bS2 HB.out GE338.out GE345.out)) : w.heap.size ≤ gb347)); replace HB := Aside0.mk (below_step (bS2 HB.out GE338.out GE345.out) hb); have NB338_347 := Aside0.mk (kN BK338.out hg); have NB347_338 := Aside0.mk (kM BK338.out hg); replace BK338 := Aside0.mk (kB BK338.out hb); have NB345_347 := Aside0.mk (kN BK345.out hg); have NB347_345 := Aside0.mk (kM BK345.out hg); replace BK345 := Aside0.mk (kB BK345.out hb); clear hb hbox hg; have hnb17 := NB347_338.out; have hnc17 := NB338_347.out; have hnb18 := NB347_345.out; have hnc18 := NB345_347.out; have hcz19_0 : w16.cell? ⟨gb347, 0, none⟩ = some (.slice none 0 0) := (blk_cell BK347.out 0).trans rfl; have hcz19_1 : w16.cell? ⟨gb347, 1, none⟩ = some (.slice none 0 0) := (blk_cell BK347.out 1).trans rfl; have hfz19_0 := blk_frozen BK347.out 0; have hfz19_1 := blk_frozen BK347.out 1; have hnb20 := NB345_338.out; have hnc20 := NB338_345.out; have hcz21_0 : w16.cell? ⟨gb345, 0, none⟩ = some (.slice Ao8 y342.length co8) := (blk_cell BK345.out 0).trans rfl; have hcz21_1 : w16.cell? ⟨gb345, 1, none⟩ = some (u346001) := (blk_cell BK345.out 1).trans rfl; have hfz21_0 := blk_frozen BK345.out 0; have hfz21_1 := blk_frozen BK345.out 1) | ((with_reducible refine gate_builtin (b := .append) (xs := #[.tmp 22, .tmp 24]) rfl ?_); at_builtin; refine Kd.R_append_rows (Kd.int .i64) (w0 := w) w.heap.size rfl (.tmp 22) (.tmp 24) 24 3 (.int .i64 0) 8 rfl Try.underlying24 info3 rfl (by decide) (by omega) u346001 x346001_1 ((rd_T26 l0 x17_1).f1) _ _ _ (fun k_ => some k_ ≠ (.slice Ao8 y342.length co8 : Value).ownBlock) (fun _ => False) rfl rfl ?aO ?aR (fun _ _ h => h) (fun _ h => h.elim) ?aF ?aB ?aS ?aL ?_; (case aR => exact Kd.C_below HR346_1.out (bS3 HB.out GE338.out GE345.out GE347.out)); (case aB => exact (bS3 HB.out GE338.out GE345.out GE347.out)); (case aF => exact (fun k_ hk => Kd.fresh' (Kd.R_lt (by refine RU ?_; exact (Kd.R_mono (Kd.R_far (p := ⟨gb347, 1, none⟩) (Kd.R_far (p := ⟨gb347, 0, none⟩) (Kd.R_types HO_346000.out BK347.out (by decide)) (fun _ hk => hk.2) (.slice A346_0 ((rd_T26 l0 x17_1).f0).length c346_0)) (fun _ hk => hk.2) (.slice A346_1 ((rd_T26 l0 x17_1).f1).length c346_1)) (fun _ h_ => h_.1)))) k_ hk)); (case aO => exact (by refine RU ?_; exact Kd.R_mono (Kd.R_far (p := ⟨gb347, 1, none⟩) (Kd.R_far (p := ⟨gb347, 0, none⟩) (Kd.R_types HO_346001.out BK347.out (by decide)) (fun _ hk => hk.2) (.slice A346_0 ((rd_T26 l0 x17_1).f0).length c346_0)) (fun _ hk => hk.2) (.slice A346_1 ((rd_T26 l0 x17_1).f1).length c346_1)) (fun _ hk => hk.1))); (case aS => exact (below_size (bS3 HB.out GE338.out GE345.out GE347.out))); (case aL => have := LMc15.out; omega); intro v349 w22 ho hb hg hat; rw [← Ny348.out] at ho; have n0_ := Aside0.mk (Kd.R_after (ok := (fun _ => True)) (by refine RU ?_; exact Kd.R_mono (Kd.R_far (p := ⟨gb347, 1, none⟩) (Kd.R_far (p := ⟨gb347, 0, none⟩) (Kd.R_types HO_346000.out BK347.out (by decide)) (fun _ hk => hk.2) (.slice A346_0 ((rd_T26 l0 x17_1).f0).length c346_0)) (fun _ hk => hk.2) (.slice A346_1 ((rd_T26 l0 x17_1).f1).length c346_1)) (fun _ hk => ⟨trivial, hk.1⟩)) hg hat); have n1_ := Aside0.mk (blk_grown (g := gb338) (o := .cells #[.slice none 0 0, .slice none 0 0] 26 (0, 0)) (by refine kU ?_; refine blk_far ?_ NB338_347.out _; refine kU ?_; refine blk_far ?_ NB338_347.out _; refine kU ?_; exact BK338.out) hg (Kd.R_ne HO_346001.out BK338.out (by decide))); have n2_ := Aside0.mk (blk_grown (g := gb345) (o := .cells #[.slice Ao8 y342.length co8, u346001] 26 (0, 0)) (by refine kU ?_; refine blk_far ?_ NB345_347.out _; refine kU ?_; refine blk_far ?_ NB345_347.out _; refine kU ?_; exact BK345.out) hg (Kd.R_ne HO_346001.out BK345.out (by decide))); have n3_ := Aside0.mk (blk_grown (g := gb347) (o := .cells #[.slice A346_0 ((rd_T26 l0 x17_1).f0).length c346_0, .slice A346_1 ((rd_T26 l0 x17_1).f1).length c346_1] 26 (0, 0)) (by refine kU ?_; refine blk_put (cs := #[.slice A346_0 ((rd_T26 l0 x17_1).f0).length c346_0, .slice none 0 0]) ?_ 1 _ rfl; refine kU ?_; refine blk_put (cs := #[.slice none 0 0, .slice none 0 0]) ?_ 0 _ rfl; refine kU ?_; exact BK347.out) hg (Kd.R_ne HO_346001.out BK347.out (by decide))); have n4_ := Aside0.mk (hb); have n5_ := Aside0.mk (ho); clear HO_346000; clear BK338; clear BK345; clear BK347; clear HB; clear HO_346001; have HO_346000 := n0_; have BK338 := n1_; have BK345 := n2_; have BK347 := n3_; have HB := n4_; have HO350 := n5_; clear n0_ n1_ n2_ n3_ n4_ n5_; clear ho hb hg hat; obtain ⟨Ao23, co23, eo23⟩ := Kd.R_slice HO350.out; subst eo23; have hcz24_0 : w22.cell? ⟨gb345, 0, none⟩ = some (.slice Ao8 y342.length co8) := (blk_cell BK345.out 0).trans rfl; have hcz24_1 : w22.cell? ⟨gb345, 1, none⟩ = some (u346001) := (blk_cell BK345.out 1).trans rfl; have hfz24_0 := blk_frozen BK345.out 0; have hfz24_1 := blk_frozen BK345.out 1))
        go_roundg k1
        case measure => have := HK1.out; omega
        case rel => exact ⟨(wrap64 (x17_1 + 1)), (y348), (.slice Ao23 y348.length co23), (by first | rfl | (simp; done) | (simp [*]; done)), H', ⟨by have := HK1.out; omega⟩, ⟨by refine RU ?_; exact Kd.R_mono (Kd.R_far (p := ⟨gb345, 1, none⟩) (Kd.R_types HO_346000.out BK345.out (by decide)) (fun _ hk => hk.2) (.slice Ao23 y348.length co23)) (fun _ hk => hk.1.2)⟩, ⟨by refine RU ?_; exact Kd.R_mono (Kd.R_far (p := ⟨gb345, 1, none⟩) (Kd.R_types HO350.out BK345.out (by decide)) (fun _ hk => hk.2) (.slice Ao23 y348.length co23)) (fun _ hk => hk.1)⟩, ⟨by refine kU ?_; refine blk_far ?_ NB338_345.out _; refine kU ?_; exact BK338.out⟩, ⟨by refine kU ?_; refine blk_put (cs := #[.slice Ao8 y342.length co8, u346001]) ?_ 1 _ rfl; refine kU ?_; exact BK345.out⟩, ⟨by exact bS3 HB.out GE338.out GE345.out GE347.out⟩⟩
       ·
        rw [if_neg c15] at H
        exact absurd H (by simp)
      ·
       rw [if_neg c14] at H
       exact absurd H (by simp)
     ·
      rw [if_neg c13] at H
      exact absurd H (by simp)
    ·
     rw [if_neg c12] at H
     have c12b0 : decide (x17_1 < (l0.length : Int)) = false := decide_eq_false c12
     clear c12
     replace H := Option.bind_eq_some_iff.mp H
     obtain ⟨t351, A250, H⟩ := H
     replace H : (if t351 = true then (some (y342, x346001_1, 0)) else (some (([] : List Int), ([] : List Int), 6))) = some (r1, r2, r3) := H
     have A25 := Aside0.mk A250
     clear A250
     by_cases c26 : t351 = true
     ·
      subst c26
      have H1 : (some (y342, x346001_1, 0)) = some (r1, r2, r3) := by rw [if_pos rfl] at H; exact H
      clear H
      have H := H1
      clear H1
      simp only [Option.some.injEq, Prod.mk.injEq] at H
      obtain ⟨rfl, rfl, rfl⟩ := H
      have hnb27 := NB345_338.out
      have hnc27 := NB338_345.out
      have hcz28_0 : wr.cell? ⟨gb345, 0, none⟩ = some (.slice Ao8 y342.length co8) := (blk_cell BK345.out 0).trans rfl
      have hcz28_1 : wr.cell? ⟨gb345, 1, none⟩ = some (u346001) := (blk_cell BK345.out 1).trans rfl
      have hfz28_0 := blk_frozen BK345.out 0
      have hfz28_1 := blk_frozen BK345.out 1
      obtain ⟨Ao29, co29, eo29⟩ := Kd.R_slice HO_346001.out
      subst eo29
      go_wp2_with (first | ((with_reducible refine gate_callee (f := 15) rfl ?_); refine goesL_ (some 29) rfl rfl Try.func15 (by kernel_rfl) rfl #[.agg #[.slice Ao8 y342.length co8, .slice Ao29 x346001_1.length co29]] rfl lU ?_; (with_reducible refine (impl_ArrayOk.calls k1 _ _ y342 _ _ x346001_1 true _ ?side1 ?side2 ?side3 ?side4 A25.out).mono ?_); (case side1 => exact cU (Kd.R_reads' HO_346000.out).2.2); (case side2 => exact (Kd.R_reads' HO_346000.out).2.1); (case side3 => exact cU (Kd.R_reads' HO_346001.out).2.2); (case side4 => exact (Kd.R_reads' HO_346001.out).2.1); rintro e w30 ⟨rfl, hb⟩; refine ⟨_, rfl, ?_⟩; replace HO_346000 := Aside0.mk (Kd.R_below (RU HO_346000.out) hb); replace HO_346001 := Aside0.mk (Kd.R_below (RU HO_346001.out) hb); replace BK338 := Aside0.mk (kB BK338.out hb); replace BK345 := Aside0.mk (kB BK345.out hb); replace HB := Aside0.mk (below_step (bS2 HB.out GE338.out GE345.out) hb); (try clear hb); (try clear hb2); (try clear hk); (try clear hi); have hcz31_0 : w30.cell? ⟨gb345, 0, none⟩ = some (.slice Ao8 y342.length co8) := (blk_cell BK345.out 0).trans rfl; have hcz31_1 : w30.cell? ⟨gb345, 1, none⟩ = some (.slice Ao29 x346001_1.length co29) := (blk_cell BK345.out 1).trans rfl; have hfz31_0 := blk_frozen BK345.out 0; have hfz31_1 := blk_frozen BK345.out 1; have hcz32_0 : w30.cell? ⟨gb338, 0, none⟩ = some (.slice none 0 0) := (blk_cell BK338.out 0).trans rfl; have hcz32_1 : w30.cell? ⟨gb338, 1, none⟩ = some (.slice none 0 0) := (blk_cell BK338.out 1).trans rfl; have hfz32_0 := blk_frozen BK338.out 0; have hfz32_1 := blk_frozen BK338.out 1))
      refine bodyPost_ret (results_ct rfl _ _ gb338 26 #[.slice Ao8 y342.length co8, .slice Ao29 x346001_1.length co29] (0, 0) _ rfl (by refine kU ?_; refine blk_put (cs := #[.slice Ao8 y342.length co8, .slice none 0 0]) ?_ 1 _ rfl; refine kU ?_; refine blk_put (cs := #[.slice none 0 0, .slice none 0 0]) ?_ 0 _ rfl; refine kU ?_; exact BK338.out) Try.underlying26 rfl (by kernel_rfl)) rfl ?_
      exact ⟨_, _, by first | rfl | (simp [errW_none, errW_some] <;> rfl) | (simp [*, errW_none, errW_some] <;> rfl), by refine RU ?_; exact Kd.R_mono (Kd.R_far (p := ⟨gb338, 1, none⟩) (Kd.R_far (p := ⟨gb338, 0, none⟩) (Kd.R_types HO_346000.out BK338.out (by decide)) (fun _ hk => hk.2) (.slice Ao8 y342.length co8)) (fun _ hk => hk.2) (.slice Ao29 x346001_1.length co29)) (fun _ hk => hk.1), by refine RU ?_; exact Kd.R_mono (Kd.R_far (p := ⟨gb338, 1, none⟩) (Kd.R_far (p := ⟨gb338, 0, none⟩) (Kd.R_types HO_346001.out BK338.out (by decide)) (fun _ hk => hk.2) (.slice Ao8 y342.length co8)) (fun _ hk => hk.2) (.slice Ao29 x346001_1.length co29)) (fun _ hk => hk.1), by exact bS2 HB.out GE338.out GE345.out⟩
     ·
      replace c26 := Bool.eq_false_iff.mpr c26
      subst c26
      have H1 : (some (([] : List Int), ([] : List Int), 6)) = some (r1, r2, r3) := by rw [if_neg (show ¬ (false = true) by decide)] at H; exact H
      clear H
      have H := H1
      clear H1
      simp only [Option.some.injEq, Prod.mk.injEq] at H
      obtain ⟨rfl, rfl, rfl⟩ := H
      have hnb33 := NB345_338.out
      have hnc33 := NB338_345.out
      have hcz34_0 : wr.cell? ⟨gb345, 0, none⟩ = some (.slice Ao8 y342.length co8) := (blk_cell BK345.out 0).trans rfl
      have hcz34_1 : wr.cell? ⟨gb345, 1, none⟩ = some (u346001) := (blk_cell BK345.out 1).trans rfl
      have hfz34_0 := blk_frozen BK345.out 0
      have hfz34_1 := blk_frozen BK345.out 1
      obtain ⟨Ao35, co35, eo35⟩ := Kd.R_slice HO_346001.out
      subst eo35
      go_wp2_with (first | ((with_reducible refine gate_callee (f := 15) rfl ?_); refine goesL_ (some 29) rfl rfl Try.func15 (by kernel_rfl) rfl #[.agg #[.slice Ao8 y342.length co8, .slice Ao35 x346001_1.length co35]] rfl lU ?_; (with_reducible refine (impl_ArrayOk.calls k1 _ _ y342 _ _ x346001_1 false _ ?side1 ?side2 ?side3 ?side4 A25.out).mono ?_); (case side1 => exact cU (Kd.R_reads' HO_346000.out).2.2); (case side2 => exact (Kd.R_reads' HO_346000.out).2.1); (case side3 => exact cU (Kd.R_reads' HO_346001.out).2.2); (case side4 => exact (Kd.R_reads' HO_346001.out).2.1); rintro e w36 ⟨rfl, hb⟩; refine ⟨_, rfl, ?_⟩; replace HO_346000 := Aside0.mk (Kd.R_below (RU HO_346000.out) hb); replace HO_346001 := Aside0.mk (Kd.R_below (RU HO_346001.out) hb); replace BK338 := Aside0.mk (kB BK338.out hb); replace BK345 := Aside0.mk (kB BK345.out hb); replace HB := Aside0.mk (below_step (bS2 HB.out GE338.out GE345.out) hb); (try clear hb); (try clear hb2); (try clear hk); (try clear hi); have hcz37_0 : w36.cell? ⟨gb338, 0, none⟩ = some (.slice none 0 0) := (blk_cell BK338.out 0).trans rfl; have hcz37_1 : w36.cell? ⟨gb338, 1, none⟩ = some (.slice none 0 0) := (blk_cell BK338.out 1).trans rfl; have hfz37_0 := blk_frozen BK338.out 0; have hfz37_1 := blk_frozen BK338.out 1))
      refine bodyPost_ret (results_ct rfl _ _ gb338 26 #[.slice none 0 0, .slice none 0 0] (0, 0) _ rfl (by refine kU ?_; refine blk_put (cs := #[.slice none 0 0, .slice none 0 0]) ?_ 1 _ rfl; refine kU ?_; refine blk_put (cs := #[.slice none 0 0, .slice none 0 0]) ?_ 0 _ rfl; refine kU ?_; exact BK338.out) Try.underlying26 rfl (by kernel_rfl)) rfl ?_
      exact ⟨_, _, by first | rfl | (simp [errW_none, errW_some] <;> rfl) | (simp [*, errW_none, errW_some] <;> rfl), by first | exact Kd.R_nil _ _ _ _ _ | exact Kd.N_nil _ _ _ _ _ | exact Kd.V_nil _ _ _ _ _ | exact Kd.Q_nil _ _ _ _ _ | exact Kd.S_nil _ _ _ _ _, by first | exact Kd.R_nil _ _ _ _ _ | exact Kd.N_nil _ _ _ _ _ | exact Kd.V_nil _ _ _ _ _ | exact Kd.Q_nil _ _ _ _ _ | exact Kd.S_nil _ _ _ _ _, by exact bS2 HB.out GE338.out GE345.out⟩
 ·
  rw [if_neg c3] at H
  exact absurd H (by simp)

/-! ### impl_Turn: function 6 -/
def impl_Turn.f (k : Nat) (l0_0 : List Int) (l0_1 : List Int) : Option (List Int × List Int × Int) := (impl_ArrayOk.f k l0_0 l0_1).bind fun t354 => (if t354 = true then (if (l0_0.length : Int) = 0 then ((impl_copyArray.f l0_0 l0_1).bind fun bt355 => (some (bt355.1, bt355.2, 0))) else ((impl_Rows.f k l0_0 l0_1).bind fun t361 => (if 1 ≤ (l0_0.length : Int) then ((impl_joined.f k t361.reverse (l0_0.drop 1)).bind fun bt365 => (some (bt365.1, bt365.2.1, bt365.2.2))) else (none)))) else (some (([] : List Int), ([] : List Int), 1)))
set_option maxHeartbeats 8000000 in
set_option maxRecDepth 100000 in
theorem impl_Turn.calls (k : Nat) (A0_0 : Option Addr) (c0_0 : Nat) (l0_0 : List Int) (A0_1 : Option Addr) (c0_1 : Nat) (l0_1 : List Int) (r1 : List Int) (r2 : List Int) (r3 : Int) (w : World) (hr0_0 : Kd.C (Kd.int .i64) w A0_0 l0_0.length l0_0) (hc0_0 : l0_0.length ≤ c0_0) (hr0_1 : Kd.C (Kd.int .i64) w A0_1 l0_1.length l0_1) (hc0_1 : l0_1.length ≤ c0_1) (h : impl_Turn.f k l0_0 l0_1 = some (r1, r2, r3)) :
  Calls Try.prog 6 #[.agg #[.slice A0_0 l0_0.length c0_0, .slice A0_1 l0_1.length c0_1]] w fun e w' => ∃ v0_ v1_ : Value, e = .returned (.tuple #[.agg #[v0_, v1_], .int .i64 r3]) ∧ Kd.R (Kd.int .i64) 3 w' w.heap.size (fun k_ => some k_ ≠ (v1_ : Value).ownBlock) v0_ r1 ∧ Kd.R (Kd.int .i64) 3 w' w.heap.size (fun k_ => some k_ ≠ (v0_ : Value).ownBlock) v1_ r2 ∧ Below w.heap.size w w' := by
 have hu26 := Try.underlying26
 have HR0_0 := Aside0.mk hr0_0
 have HC0_0 := Aside0.mk hc0_0
 clear hr0_0 hc0_0
 have HR0_1 := Aside0.mk hr0_1
 have HC0_1 := Aside0.mk hc0_1
 clear hr0_1 hc0_1
 have HB := Aside0.mk (Below.refl w.heap.size w)
 have H : ((impl_ArrayOk.f k l0_0 l0_1).bind fun t354 => (if t354 = true then (if (l0_0.length : Int) = 0 then ((impl_copyArray.f l0_0 l0_1).bind fun bt355 => (some (bt355.1, bt355.2, 0))) else ((impl_Rows.f k l0_0 l0_1).bind fun t361 => (if 1 ≤ (l0_0.length : Int) then ((impl_joined.f k t361.reverse (l0_0.drop 1)).bind fun bt365 => (some (bt365.1, bt365.2.1, bt365.2.2))) else (none)))) else (some (([] : List Int), ([] : List Int), 1)))) = some (r1, r2, r3) := h
 clear h
 replace H := Option.bind_eq_some_iff.mp H
 obtain ⟨t354, A20, H⟩ := H
 replace H : (if t354 = true then (if (l0_0.length : Int) = 0 then ((impl_copyArray.f l0_0 l0_1).bind fun bt355 => (some (bt355.1, bt355.2, 0))) else ((impl_Rows.f k l0_0 l0_1).bind fun t361 => (if 1 ≤ (l0_0.length : Int) then ((impl_joined.f k t361.reverse (l0_0.drop 1)).bind fun bt365 => (some (bt365.1, bt365.2.1, bt365.2.2))) else (none)))) else (some (([] : List Int), ([] : List Int), 1))) = some (r1, r2, r3) := H
 have A2 := Aside0.mk A20
 clear A20
 by_cases c3 : t354 = true
 ·
  subst c3
  have H1 : (if (l0_0.length : Int) = 0 then ((impl_copyArray.f l0_0 l0_1).bind fun bt355 => (some (bt355.1, bt355.2, 0))) else ((impl_Rows.f k l0_0 l0_1).bind fun t361 => (if 1 ≤ (l0_0.length : Int) then ((impl_joined.f k t361.reverse (l0_0.drop 1)).bind fun bt365 => (some (bt365.1, bt365.2.1, bt365.2.2))) else (none)))) = some (r1, r2, r3) := by rw [if_pos rfl] at H; exact H
  clear H
  have H := H1
  clear H1
  by_cases c4 : (l0_0.length : Int) = 0
  ·
   rw [if_pos c4] at H
   have c4b0 : ((l0_0.length : Int) == 0) = true := beq_iff_eq.mpr c4
   have c4b1 : ((l0_0.length : Int) != 0) = false := bne_eq_false_iff_eq.mpr c4
   clear c4
   replace H := Option.bind_eq_some_iff.mp H
   obtain ⟨⟨t355, t358⟩, A50, H⟩ := H
   replace H : (some (t355, t358, 0)) = some (r1, r2, r3) := H
   have A5 := Aside0.mk A50
   clear A50
   simp only [Option.some.injEq, Prod.mk.injEq] at H
   obtain ⟨rfl, rfl, rfl⟩ := H
   go_enter Try.func6, Try.ntmps6
   go_wp2_with (first | ((with_reducible refine gate_dst (N := 1) rfl ?_); refine box_event ?hg (N := 1) ?hd (cs := #[.slice A0_0 l0_0.length c0_0, .slice A0_1 l0_1.length c0_1]) (t := 26) ?hr ?_; (case hd => rfl); (case hg => rfl); (case hr => first | (go_simp; done) | (go_simp; rfl)); intro gb352 hg w6 hbox hb; have BK352 := Aside0.mk (hbox); have GW352 := Aside0.mk ((by rw [hg]; exact (below_size (bU HB.out)) : w.heap.size ≤ gb352)); have GE352 := Aside0.mk ((by rw [hg]; exact (below_size (bU HB.out)) : w.heap.size ≤ gb352)); replace HB := Aside0.mk (below_step (bU HB.out) hb); clear hb hbox hg) | ((with_reducible refine gate_dst (N := 2) rfl ?_); refine box_event ?hg (N := 2) ?hd (cs := #[.slice none 0 0, .slice none 0 0]) (t := 26) ?hr ?_; (case hd => rfl); (case hg => rfl); (case hr => first | (go_simp; done) | (go_simp; rfl)); intro gb353 hg w7 hbox hb; have BK353 := Aside0.mk (hbox); have GW353 := Aside0.mk ((by rw [hg]; exact (below_size (bS1 HB.out GE352.out)) : w.heap.size ≤ gb353)); have GE353 := Aside0.mk ((by rw [hg]; exact (below_size (bS1 HB.out GE352.out)) : w.heap.size ≤ gb353)); replace HB := Aside0.mk (below_step (bS1 HB.out GE352.out) hb); have NB352_353 := Aside0.mk (kN BK352.out hg); have NB353_352 := Aside0.mk (kM BK352.out hg); replace BK352 := Aside0.mk (kB BK352.out hb); clear hb hbox hg; have hnb8 := NB352_353.out; have hnc8 := NB353_352.out; have hcz9_0 : w7.cell? ⟨gb352, 0, none⟩ = some (.slice A0_0 l0_0.length c0_0) := (blk_cell BK352.out 0).trans rfl; have hcz9_1 : w7.cell? ⟨gb352, 1, none⟩ = some (.slice A0_1 l0_1.length c0_1) := (blk_cell BK352.out 1).trans rfl; have hfz9_0 := blk_frozen BK352.out 0; have hfz9_1 := blk_frozen BK352.out 1) | ((with_reducible refine gate_callee (f := 15) rfl ?_); refine goesL_ (some 6) rfl rfl Try.func15 (by kernel_rfl) rfl #[.agg #[.slice A0_0 l0_0.length c0_0, .slice A0_1 l0_1.length c0_1]] rfl lU ?_; (with_reducible refine (impl_ArrayOk.calls k _ _ l0_0 _ _ l0_1 true _ ?side1 ?side2 ?side3 ?side4 A2.out).mono ?_); (case side1 => exact cU (Kd.C_below HR0_0.out HB.out)); (case side2 => exact HC0_0.out); (case side3 => exact cU (Kd.C_below HR0_1.out HB.out)); (case side4 => exact HC0_1.out); rintro e w10 ⟨rfl, hb⟩; refine ⟨_, rfl, ?_⟩; replace BK352 := Aside0.mk (kB BK352.out hb); replace BK353 := Aside0.mk (kB BK353.out hb); replace HB := Aside0.mk (below_step (bS2 HB.out GE352.out GE353.out) hb); (try clear hb); (try clear hb2); (try clear hk); (try clear hi); have hcz11_0 : w10.cell? ⟨gb352, 0, none⟩ = some (.slice A0_0 l0_0.length c0_0) := (blk_cell BK352.out 0).trans rfl; have hcz11_1 : w10.cell? ⟨gb352, 1, none⟩ = some (.slice A0_1 l0_1.length c0_1) := (blk_cell BK352.out 1).trans rfl; have hfz11_0 := blk_frozen BK352.out 0; have hfz11_1 := blk_frozen BK352.out 1) | ((with_reducible refine gate_callee (f := 16) rfl ?_); refine goesL_ (some 14) rfl rfl Try.func16 (by kernel_rfl) rfl #[.agg #[.slice A0_0 l0_0.length c0_0, .slice A0_1 l0_1.length c0_1]] rfl lU ?_; (with_reducible refine (impl_copyArray.calls _ _ l0_0 _ _ l0_1 t355 t358 _ ?side1 ?side2 ?side3 ?side4 A5.out).mono ?_); (case side1 => exact cU (Kd.C_below HR0_0.out HB.out)); (case side2 => exact HC0_0.out); (case side3 => exact cU (Kd.C_below HR0_1.out HB.out)); (case side4 => exact HC0_1.out); rintro e w12 ⟨v356, v359, rfl, ho0, ho1, hb⟩; refine ⟨_, rfl, ?_⟩; have HO357 := Aside0.mk (Kd.R_lower ho0 (below_size (bS2 HB.out GE352.out GE353.out))); have HO360 := Aside0.mk (Kd.R_lower ho1 (below_size (bS2 HB.out GE352.out GE353.out))); replace BK352 := Aside0.mk (kB BK352.out hb); replace BK353 := Aside0.mk (kB BK353.out hb); replace HB := Aside0.mk (below_step (bS2 HB.out GE352.out GE353.out) hb); (try clear hb); (try clear hb2); (try clear hk); (try clear hi); (try clear ho0); (try clear ho1); obtain ⟨Ao13, co13, eo13⟩ := Kd.R_slice HO357.out; subst eo13; have hcz14_0 : w12.cell? ⟨gb353, 0, none⟩ = some (.slice none 0 0) := (blk_cell BK353.out 0).trans rfl; have hcz14_1 : w12.cell? ⟨gb353, 1, none⟩ = some (.slice none 0 0) := (blk_cell BK353.out 1).trans rfl; have hfz14_0 := blk_frozen BK353.out 0; have hfz14_1 := blk_frozen BK353.out 1; obtain ⟨Ao15, co15, eo15⟩ := Kd.R_slice HO360.out; subst eo15))
   refine bodyPost_ret (results_ct rfl _ _ gb353 26 #[.slice Ao13 t355.length co13, .slice Ao15 t358.length co15] (0, 0) _ rfl (by refine kU ?_; refine blk_put (cs := #[.slice Ao13 t355.length co13, .slice none 0 0]) ?_ 1 _ rfl; refine kU ?_; refine blk_put (cs := #[.slice none 0 0, .slice none 0 0]) ?_ 0 _ rfl; refine kU ?_; exact BK353.out) Try.underlying26 rfl (by kernel_rfl)) rfl ?_
   exact ⟨_, _, by first | rfl | (simp [errW_none, errW_some] <;> rfl) | (simp [*, errW_none, errW_some] <;> rfl), by refine RU ?_; exact Kd.R_mono (Kd.R_far (p := ⟨gb353, 1, none⟩) (Kd.R_far (p := ⟨gb353, 0, none⟩) (Kd.R_types HO357.out BK353.out (by decide)) (fun _ hk => hk.2) (.slice Ao13 t355.length co13)) (fun _ hk => hk.2) (.slice Ao15 t358.length co15)) (fun _ hk => hk.1), by refine RU ?_; exact Kd.R_mono (Kd.R_far (p := ⟨gb353, 1, none⟩) (Kd.R_far (p := ⟨gb353, 0, none⟩) (Kd.R_types HO360.out BK353.out (by decide)) (fun _ hk => hk.2) (.slice Ao13 t355.length co13)) (fun _ hk => hk.2) (.slice Ao15 t358.length co15)) (fun _ hk => hk.1), by exact bS2 HB.out GE352.out GE353.out⟩
  ·
   rw [if_neg c4] at H
   have c4b0 : ((l0_0.length : Int) == 0) = false := beq_eq_false_iff_ne.mpr c4
   have c4b1 : ((l0_0.length : Int) != 0) = true := bne_iff_ne.mpr c4
   have c4b2 : ¬ (l0_0 = []) := fun h_ => c4 (by rw [h_]; rfl)
   replace H := Option.bind_eq_some_iff.mp H
   obtain ⟨t361, A160, H⟩ := H
   replace H : (if 1 ≤ (l0_0.length : Int) then ((impl_joined.f k t361.reverse (l0_0.drop 1)).bind fun bt365 => (some (bt365.1, bt365.2.1, bt365.2.2))) else (none)) = some (r1, r2, r3) := H
   have A16 := Aside0.mk A160
   clear A160
   by_cases c17 : 1 ≤ (l0_0.length : Int)
   ·
    rw [if_pos c17] at H
    have c17b0 := eq_true c17
    have c17b1 : decide (1 ≤ (l0_0.length : Int)) = true := decide_eq_true c17
    clear c17
    replace H := Option.bind_eq_some_iff.mp H
    obtain ⟨⟨t365, t368, t371⟩, A180, H⟩ := H
    replace H : (some (t365, t368, t371)) = some (r1, r2, r3) := H
    have A18 := Aside0.mk A180
    clear A180
    simp only [Option.some.injEq, Prod.mk.injEq] at H
    obtain ⟨rfl, rfl, rfl⟩ := H
    go_enter Try.func6, Try.ntmps6
    go_wp2_with (first | ((with_reducible refine gate_dst (N := 1) rfl ?_); refine box_event ?hg (N := 1) ?hd (cs := #[.slice A0_0 l0_0.length c0_0, .slice A0_1 l0_1.length c0_1]) (t := 26) ?hr ?_; (case hd => rfl); (case hg => rfl); (case hr => first | (go_simp; done) | (go_simp; rfl)); intro gb352 hg w19 hbox hb; have BK352 := Aside0.mk (hbox); have GW352 := Aside0.mk ((by rw [hg]; exact (below_size (bU HB.out)) : w.heap.size ≤ gb352)); have GE352 := Aside0.mk ((by rw [hg]; exact (below_size (bU HB.out)) : w.heap.size ≤ gb352)); replace HB := Aside0.mk (below_step (bU HB.out) hb); clear hb hbox hg) | ((with_reducible refine gate_dst (N := 2) rfl ?_); refine box_event ?hg (N := 2) ?hd (cs := #[.slice none 0 0, .slice none 0 0]) (t := 26) ?hr ?_; (case hd => rfl); (case hg => rfl); (case hr => first | (go_simp; done) | (go_simp; rfl)); intro gb353 hg w20 hbox hb; have BK353 := Aside0.mk (hbox); have GW353 := Aside0.mk ((by rw [hg]; exact (below_size (bS1 HB.out GE352.out)) : w.heap.size ≤ gb353)); have GE353 := Aside0.mk ((by rw [hg]; exact (below_size (bS1 HB.out GE352.out)) : w.heap.size ≤ gb353)); replace HB := Aside0.mk (below_step (bS1 HB.out GE352.out) hb); have NB352_353 := Aside0.mk (kN BK352.out hg); have NB353_352 := Aside0.mk (kM BK352.out hg); replace BK352 := Aside0.mk (kB BK352.out hb); clear hb hbox hg; have hnb21 := NB352_353.out; have hnc21 := NB353_352.out; have hcz22_0 : w20.cell? ⟨gb352, 0, none⟩ = some (.slice A0_0 l0_0.length c0_0) := (blk_cell BK352.out 0).trans rfl; have hcz22_1 : w20.cell? ⟨gb352, 1, none⟩ = some (.slice A0_1 l0_1.length c0_1) := (blk_cell BK352.out 1).trans rfl; have hfz22_0 := blk_frozen BK352.out 0; have hfz22_1 := blk_frozen BK352.out 1) | ((with_reducible refine gate_callee (f := 15) rfl ?_); refine goesL_ (some 6) rfl rfl Try.func15 (by kernel_rfl) rfl #[.agg #[.slice A0_0 l0_0.length c0_0, .slice A0_1 l0_1.length c0_1]] rfl lU ?_; (with_reducible refine (impl_ArrayOk.calls k _ _ l0_0 _ _ l0_1 true _ ?side1 ?side2 ?side3 ?side4 A2.out).mono ?_); (case side1 => exact cU (Kd.C_below HR0_0.out HB.out)); (case side2 => exact HC0_0.out); (case side3 => exact cU (Kd.C_below HR0_1.out HB.out)); (case side4 => exact HC0_1.out); rintro e w23 ⟨rfl, hb⟩; refine ⟨_, rfl, ?_⟩; replace BK352 := Aside0.mk (kB BK352.out hb); replace BK353 := Aside0.mk (kB BK353.out hb); replace HB := Aside0.mk (below_step (bS2 HB.out GE352.out GE353.out) hb); (try clear hb); (try clear hb2); (try clear hk); (try clear hi); have hcz24_0 : w23.cell? ⟨gb352, 0, none⟩ = some (.slice A0_0 l0_0.length c0_0) := (blk_cell BK352.out 0).trans rfl; have hcz24_1 : w23.cell? ⟨gb352, 1, none⟩ = some (.slice A0_1 l0_1.length c0_1) := (blk_cell BK352.out 1).trans rfl; have hfz24_0 := blk_frozen BK352.out 0; have hfz24_1 := blk_frozen BK352.out 1) | ((with_reducible refine gate_callee (f := 17) rfl ?_); refine goesL_ (some 16) rfl rfl Try.func17 (by kernel_rfl) rfl #[.agg #[.slice A0_0 l0_0.length c0_0, .slice A0_1 l0_1.length c0_1]] rfl lU ?_; (with_reducible refine (impl_Rows.calls k _ _ l0_0 _ _ l0_1 t361 _ ?side1 ?side2 ?side3 ?side4 A16.out).mono ?_); (case side1 => exact cU (Kd.C_below HR0_0.out HB.out)); (case side2 => exact HC0_0.out); (case side3 => exact cU (Kd.C_below HR0_1.out HB.out)); (case side4 => exact HC0_1.out); rintro e w25 ⟨v362, rfl, ho0, hb⟩; refine ⟨_, rfl, ?_⟩; have HO363 := Aside0.mk (Kd.S_lower (Kd.S_newB (Kd.S_newB ho0 (g := gb352) (o := .cells #[.slice A0_0 l0_0.length c0_0, .slice A0_1 l0_1.length c0_1] 26 (0, 0)) (kU BK352.out)) (g := gb353) (o := .cells #[.slice none 0 0, .slice none 0 0] 26 (0, 0)) (kU BK353.out)) (below_size (bS2 HB.out GE352.out GE353.out))); replace BK352 := Aside0.mk (kB BK352.out hb); replace BK353 := Aside0.mk (kB BK353.out hb); replace HB := Aside0.mk (below_step (bS2 HB.out GE352.out GE353.out) hb); (try clear hb); (try clear hb2); (try clear hk); (try clear hi); (try clear ho0); have hcz26_0 : w25.cell? ⟨gb352, 0, none⟩ = some (.slice A0_0 l0_0.length c0_0) := (blk_cell BK352.out 0).trans rfl; have hcz26_1 : w25.cell? ⟨gb352, 1, none⟩ = some (.slice A0_1 l0_1.length c0_1) := (blk_cell BK352.out 1).trans rfl; have hfz26_0 := blk_frozen BK352.out 0; have hfz26_1 := blk_frozen BK352.out 1; obtain ⟨i027, hi027, _, hsz27, _⟩ := info_parts info3; obtain ⟨A27, hcut27, hA27, hC27⟩ := print_drop_of (P := Try.prog) (Value.int .i64) 0 24 3 .i64 Try.underlying24 hi027 hsz27 A0_0 c0_0 l0_0 1 (by omega) (of_decide_eq_true (by first | (with_reducible assumption) | assumption)) HC0_0.out; have HR364 := Aside0.mk (Kd.C_of_reads (h1 := fun _ => rfl) (hA27 _ (Kd.reads_of_C HR0_0.out))); have HC364 := Aside0.mk hC27; clear hA27 hC27 hi027 hsz27; obtain ⟨Ao28, co28, eo28⟩ := Kd.S_slice HO363.out; subst eo28) | ((with_reducible refine gate_callee (f := 18) rfl ?_); refine goesL_ (some 18) rfl rfl Try.func18 (by kernel_rfl) rfl #[.slice Ao28 t361.length co28] rfl lU ?_; (with_reducible refine (rev_S (d := k26) (e := 26) (base := w.heap.size) (v := .slice Ao28 t361.length co28) (xs := t361) rfl (SU HO363.out)).mono ?_); rintro e w25r ⟨rfl, hg_, ho0⟩; refine ⟨_, rfl, ?_⟩; have hok_ := (Kd.S_R (Kd.S_bound HO363.out)).1; have ngb352_ : w25r.heap[gb352]? = some (.cells #[.slice A0_0 l0_0.length c0_0, .slice A0_1 l0_1.length c0_1] 26 (0, 0)) := blk_grown (kU BK352.out) hg_ (fun e_ => by have := (hok_ _ e_.symm).1; simp at this); clear BK352; have BK352 := Aside0.mk ngb352_; clear ngb352_; have ngb353_ : w25r.heap[gb353]? = some (.cells #[.slice none 0 0, .slice none 0 0] 26 (0, 0)) := blk_grown (kU BK353.out) hg_ (fun e_ => by have := (hok_ _ e_.symm).1; simp at this); clear BK353; have BK353 := Aside0.mk ngb353_; clear ngb353_; have nHB_ : Below w.heap.size w w25r := Below.grown (bS2 HB.out GE352.out GE353.out) hg_ (below_size (bS2 HB.out GE352.out GE353.out)) (fun k_ hk_ => (hok_ k_ hk_).2.1); clear HB; have HB := Aside0.mk nHB_; clear nHB_; clear hok_; clear hg_; clear HO363; have HO363 := Aside0.mk ho0; clear ho0; have hcz26_0r : w25r.cell? ⟨gb352, 0, none⟩ = some (.slice A0_0 l0_0.length c0_0) := (blk_cell BK352.out 0).trans rfl; have hcz26_1r : w25r.cell? ⟨gb352, 1, none⟩ = some (.slice A0_1 l0_1.length c0_1) := (blk_cell BK352.out 1).trans rfl; have hfz26_0r := blk_frozen BK352.out 0; have hfz26_1r := blk_frozen BK352.out 1) | ((with_reducible refine gate_callee (f := 19) rfl ?_); refine goesL_ (some 23) rfl rfl Try.func19 (by kernel_rfl) rfl #[.slice Ao28 t361.reverse.length co28, .slice A27 (l0_0.drop 1).length (c0_0 - 1)] rfl (by (try simp only [List.map_toArray, List.map_cons, List.map_nil, List.length_reverse]); first | done | (rw [show (l0_0.drop 1).length = (l0_0.length - 1) from List.length_drop] <;> rfl) | rfl | (simp only [List.length_drop, List.length_take]; rfl)) ?_; (with_reducible refine (impl_joined.calls k _ _ t361.reverse _ _ (l0_0.drop 1) t365 t368 t371 _ ?side1 ?side2 ?side3 ?side4 A18.out).mono ?_); (case side1 => exact cU (Kd.S_reads' HO363.out).2.2); (case side2 => rw [List.length_reverse]; exact (Kd.S_reads' HO363.out).2.1); (case side3 => exact cU (Kd.C_below HR364.out HB.out)); (case side4 => exact HC364.out); rintro e w29 ⟨v366, v369, rfl, ho0, ho1, hb⟩; refine ⟨_, rfl, ?_⟩; replace HO363 := Aside0.mk (Kd.S_mono (Kd.S_told (Kd.S_told (Kd.S_old (SU HO363.out) hb) (Kd.R_base ho0)) (Kd.R_base ho1)) (fun _ h_ => h_.1)); have HO367 := Aside0.mk (Kd.R_lower ho0 (below_size (bS2 HB.out GE352.out GE353.out))); have HO370 := Aside0.mk (Kd.R_lower ho1 (below_size (bS2 HB.out GE352.out GE353.out))); replace BK352 := Aside0.mk (kB BK352.out hb); replace BK353 := Aside0.mk (kB BK353.out hb); replace HB := Aside0.mk (below_step (bS2 HB.out GE352.out GE353.out) hb); (try clear hb); (try clear hb2); (try clear hk); (try clear hi); (try clear ho0); (try clear ho1); obtain ⟨Ao30, co30, eo30⟩ := Kd.R_slice HO367.out; subst eo30; have hcz31_0 : w29.cell? ⟨gb353, 0, none⟩ = some (.slice none 0 0) := (blk_cell BK353.out 0).trans rfl; have hcz31_1 : w29.cell? ⟨gb353, 1, none⟩ = some (.slice none 0 0) := (blk_cell BK353.out 1).trans rfl; have hfz31_0 := blk_frozen BK353.out 0; have hfz31_1 := blk_frozen BK353.out 1; obtain ⟨Ao32, co32, eo32⟩ := Kd.R_slice HO370.out; subst eo32))
    refine bodyPost_ret (results_ct rfl _ _ gb353 26 #[.slice Ao30 t365.length co30, .slice Ao32 t368.length co32] (0, 0) _ rfl (by refine kU ?_; refine blk_put (cs := #[.slice Ao30 t365.length co30, .slice none 0 0]) ?_ 1 _ rfl; refine kU ?_; refine blk_put (cs := #[.slice none 0 0, .slice none 0 0]) ?_ 0 _ rfl; refine kU ?_; exact BK353.out) Try.underlying26 rfl (by kernel_rfl)) rfl ?_
    exact ⟨_, _, by first | rfl | (simp [errW_none, errW_some] <;> rfl) | (simp [*, errW_none, errW_some] <;> rfl), by refine RU ?_; exact Kd.R_mono (Kd.R_far (p := ⟨gb353, 1, none⟩) (Kd.R_far (p := ⟨gb353, 0, none⟩) (Kd.R_types HO367.out BK353.out (by decide)) (fun _ hk => hk.2) (.slice Ao30 t365.length co30)) (fun _ hk => hk.2) (.slice Ao32 t368.length co32)) (fun _ hk => hk.1), by refine RU ?_; exact Kd.R_mono (Kd.R_far (p := ⟨gb353, 1, none⟩) (Kd.R_far (p := ⟨gb353, 0, none⟩) (Kd.R_types HO370.out BK353.out (by decide)) (fun _ hk => hk.2) (.slice Ao30 t365.length co30)) (fun _ hk => hk.2) (.slice Ao32 t368.length co32)) (fun _ hk => hk.1), by exact bS2 HB.out GE352.out GE353.out⟩
   ·
    rw [if_neg c17] at H
    exact absurd H (by simp)
 ·
  replace c3 := Bool.eq_false_iff.mpr c3
  subst c3
  have H1 : (some (([] : List Int), ([] : List Int), 1)) = some (r1, r2, r3) := by rw [if_neg (show ¬ (false = true) by decide)] at H; exact H
  clear H
  have H := H1
  clear H1
  simp only [Option.some.injEq, Prod.mk.injEq] at H
  obtain ⟨rfl, rfl, rfl⟩ := H
  go_enter Try.func6, Try.ntmps6
  go_wp2_with (first | ((with_reducible refine gate_dst (N := 1) rfl ?_); refine box_event ?hg (N := 1) ?hd (cs := #[.slice A0_0 l0_0.length c0_0, .slice A0_1 l0_1.length c0_1]) (t := 26) ?hr ?_; (case hd => rfl); (case hg => rfl); (case hr => first | (go_simp; done) | (go_simp; rfl)); intro gb352 hg w33 hbox hb; have BK352 := Aside0.mk (hbox); have GW352 := Aside0.mk ((by rw [hg]; exact (below_size (bU HB.out)) : w.heap.size ≤ gb352)); have GE352 := Aside0.mk ((by rw [hg]; exact (below_size (bU HB.out)) : w.heap.size ≤ gb352)); replace HB := Aside0.mk (below_step (bU HB.out) hb); clear hb hbox hg) | ((with_reducible refine gate_dst (N := 2) rfl ?_); refine box_event ?hg (N := 2) ?hd (cs := #[.slice none 0 0, .slice none 0 0]) (t := 26) ?hr ?_; (case hd => rfl); (case hg => rfl); (case hr => first | (go_simp; done) | (go_simp; rfl)); intro gb353 hg w34 hbox hb; have BK353 := Aside0.mk (hbox); have GW353 := Aside0.mk ((by rw [hg]; exact (below_size (bS1 HB.out GE352.out)) : w.heap.size ≤ gb353)); have GE353 := Aside0.mk ((by rw [hg]; exact (below_size (bS1 HB.out GE352.out)) : w.heap.size ≤ gb353)); replace HB := Aside0.mk (below_step (bS1 HB.out GE352.out) hb); have NB352_353 := Aside0.mk (kN BK352.out hg); have NB353_352 := Aside0.mk (kM BK352.out hg); replace BK352 := Aside0.mk (kB BK352.out hb); clear hb hbox hg; have hnb35 := NB352_353.out; have hnc35 := NB353_352.out; have hcz36_0 : w34.cell? ⟨gb352, 0, none⟩ = some (.slice A0_0 l0_0.length c0_0) := (blk_cell BK352.out 0).trans rfl; have hcz36_1 : w34.cell? ⟨gb352, 1, none⟩ = some (.slice A0_1 l0_1.length c0_1) := (blk_cell BK352.out 1).trans rfl; have hfz36_0 := blk_frozen BK352.out 0; have hfz36_1 := blk_frozen BK352.out 1) | ((with_reducible refine gate_callee (f := 15) rfl ?_); refine goesL_ (some 6) rfl rfl Try.func15 (by kernel_rfl) rfl #[.agg #[.slice A0_0 l0_0.length c0_0, .slice A0_1 l0_1.length c0_1]] rfl lU ?_; (with_reducible refine (impl_ArrayOk.calls k _ _ l0_0 _ _ l0_1 false _ ?side1 ?side2 ?side3 ?side4 A2.out).mono ?_); (case side1 => exact cU (Kd.C_below HR0_0.out HB.out)); (case side2 => exact HC0_0.out); (case side3 => exact cU (Kd.C_below HR0_1.out HB.out)); (case side4 => exact HC0_1.out); rintro e w37 ⟨rfl, hb⟩; refine ⟨_, rfl, ?_⟩; replace BK352 := Aside0.mk (kB BK352.out hb); replace BK353 := Aside0.mk (kB BK353.out hb); replace HB := Aside0.mk (below_step (bS2 HB.out GE352.out GE353.out) hb); (try clear hb); (try clear hb2); (try clear hk); (try clear hi); have hcz38_0 : w37.cell? ⟨gb353, 0, none⟩ = some (.slice none 0 0) := (blk_cell BK353.out 0).trans rfl; have hcz38_1 : w37.cell? ⟨gb353, 1, none⟩ = some (.slice none 0 0) := (blk_cell BK353.out 1).trans rfl; have hfz38_0 := blk_frozen BK353.out 0; have hfz38_1 := blk_frozen BK353.out 1))
  refine bodyPost_ret (results_ct rfl _ _ gb353 26 #[.slice none 0 0, .slice none 0 0] (0, 0) _ rfl (by refine kU ?_; refine blk_put (cs := #[.slice none 0 0, .slice none 0 0]) ?_ 1 _ rfl; refine kU ?_; refine blk_put (cs := #[.slice none 0 0, .slice none 0 0]) ?_ 0 _ rfl; refine kU ?_; exact BK353.out) Try.underlying26 rfl (by kernel_rfl)) rfl ?_
  exact ⟨_, _, by first | rfl | (simp [errW_none, errW_some] <;> rfl) | (simp [*, errW_none, errW_some] <;> rfl), by first | exact Kd.R_nil _ _ _ _ _ | exact Kd.N_nil _ _ _ _ _ | exact Kd.V_nil _ _ _ _ _ | exact Kd.Q_nil _ _ _ _ _ | exact Kd.S_nil _ _ _ _ _, by first | exact Kd.R_nil _ _ _ _ _ | exact Kd.N_nil _ _ _ _ _ | exact Kd.V_nil _ _ _ _ _ | exact Kd.Q_nil _ _ _ _ _ | exact Kd.S_nil _ _ _ _ _, by exact bS2 HB.out GE352.out GE353.out⟩

end Go.Proofs.Ytkjcpgjhpfocmaa.PFnTurned
