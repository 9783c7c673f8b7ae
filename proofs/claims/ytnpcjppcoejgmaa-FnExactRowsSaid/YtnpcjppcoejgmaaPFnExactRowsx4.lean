/- The walk of what a law reaches, for the law's row: written by a program of this session; it has no condition of its own. -/
import Derived.Test.YtnpcjppcoejgmaaPFnExactRowsx0
import Derived.Test.YtnpcjppcoejgmaaQ
import Derived.Test.YtnpcjppcoejgmaaPFnExactRowsx3
namespace Go.Proofs.Ytnpcjppcoejgmaa.PFnExactRows
open Go.RowKit Go.Proofs.YtnpcjppcoejgmaaW.PrintWords Go.Proofs.YtnpcjppcoejgmaaW.PrintLast Go.Proofs.YtnpcjppcoejgmaaW.PrintMore Go.Proofs.YtnpcjppcoejgmaaQ
attribute [local go_sem] max2_int min2_int max_two min_two max_three min_three max_four min_four   -- for this text's walks alone
set_option linter.unusedVariables false
set_option linter.unusedSimpArgs false

/-! ### impl_Rows: function 8 -/
mutual
def impl_Rows.j0 : Nat → Bool → List Int → List Int → Option ((List (S28)))
 | 0, _, _, _ => none
 | k + 1, x14, x181000, x181001 => if x14 = true then (some ([] : List (S28))) else (if 1 ≤ (x181000.length : Int) then ((impl_SizeOf.f k (x181000.drop 1)).bind fun t183 => (impl_Rows.l0 k t183 ([] : List (S28)) 0 x181000 x181001)) else (none))
def impl_Rows.l0 : Nat → Int → List (S28) → Int → List Int → List Int → Option ((List (S28)))
 | 0, _, _, _, _, _ => none
 | k + 1, x3, x4, x5, x181000, x181001 => if 0 < (x181000.length : Int) then (if x5 < (rd x181000 0) then (if 1 ≤ (x181000.length : Int) then (if 0 ≤ (wrap64 (x5 * x3)) then (if (wrap64 (x5 * x3)) ≤ (wrap64 ((wrap64 (x5 + 1)) * x3)) then (if (wrap64 ((wrap64 (x5 + 1)) * x3)) ≤ (x181001.length : Int) then ((impl_copyArray.f (x181000.drop 1) ((x181001.take ((wrap64 ((wrap64 (x5 + 1)) * x3)) : Int).toNat).drop ((wrap64 (x5 * x3)) : Int).toNat)).bind fun bt187 => (if x4.length < 2932031007402 then (impl_Rows.l0 k x3 (x4 ++ [(⟨bt187.1, bt187.2⟩ : S28)]) (wrap64 (x5 + 1)) x181000 x181001) else (none))) else (none)) else (none)) else (none)) else (none)) else (some x4)) else (none)
end
def impl_Rows.f (k : Nat) (l0_0 : List Int) (l0_1 : List Int) : Option ((List (S28))) := (impl_ArrayOk.f k l0_0 l0_1).bind fun t181 => (if t181 = true then (impl_Rows.j0 k ((l0_0.length : Int) == 0) l0_0 l0_1) else (impl_Rows.j0 k true l0_0 l0_1))
def impl_Rows.T8 : Bool × List (List Nat × List Nat) := (true, [([], []), ([], []), ([1], [1]), ([2], [2]), ([], []), ([4], [4]), ([], []), ([], []), ([6, 7], [6, 7]), ([], []), ([9], [9]), ([], []), ([10, 11], [10, 11]), ([5, 8, 12], [5, 8, 12]), ([3, 13], [3, 13]), ([14], [14]), ([15], [15]), ([0, 16, 15], [0, 16]), ([17, 17, 0, 1, 2, 3, 4, 5, 6, 7, 8, 9, 10, 11, 12, 13, 14, 15, 16, 17], [0, 17])])
def impl_Rows.B8 : List Nat := [0, 0, 2, 6, 0, 16, 0, 0, 192, 0, 512, 0, 3584, 8176, 16382, 32766, 65534, 131071, 262143]
theorem impl_Rows.tab8 : rtab .any (opsOf Try.f8 8) = impl_Rows.T8 := by kernel_rfl
theorem impl_Rows.bits8 : waitsOk impl_Rows.T8.2 impl_Rows.B8 = true := by kernel_rfl
set_option maxHeartbeats 8000000 in
set_option maxRecDepth 100000 in
theorem impl_Rows.calls (k : Nat) (A0_0 : Option Addr) (c0_0 : Nat) (l0_0 : List Int) (A0_1 : Option Addr) (c0_1 : Nat) (l0_1 : List Int) (r : List (S28)) (w : World) (hr0_0 : Kd.C (Kd.int .i64) w A0_0 l0_0.length l0_0) (hc0_0 : l0_0.length ≤ c0_0) (hr0_1 : Kd.C (Kd.int .i64) w A0_1 l0_1.length l0_1) (hc0_1 : l0_1.length ≤ c0_1) (h : impl_Rows.f k l0_0 l0_1 = some r) :
  Calls Try.prog 8 #[.agg #[.slice A0_0 l0_0.length c0_0, .slice A0_1 l0_1.length c0_1]] w fun e w' => ∃ v0_ : Value, e = .returned (v0_) ∧ Kd.S k28 28 w' w.heap.size (fun _ => True) v0_ r ∧ Below w.heap.size w w' := by
 have hu28 := Try.underlying28
 have HR0_0 := Aside0.mk hr0_0
 have HC0_0 := Aside0.mk hc0_0
 clear hr0_0 hc0_0
 have HR0_1 := Aside0.mk hr0_1
 have HC0_1 := Aside0.mk hc0_1
 clear hr0_1 hc0_1
 have HB := Aside0.mk (Below.refl w.heap.size w)
 have H : ((impl_ArrayOk.f k l0_0 l0_1).bind fun t181 => (if t181 = true then (impl_Rows.j0 k ((l0_0.length : Int) == 0) l0_0 l0_1) else (impl_Rows.j0 k true l0_0 l0_1))) = some r := h
 clear h
 have HC2 := Aside0.mk H
 clear H
 go_enter Try.func8, Try.ntmps8
 go_upto_region 1 with (first | ((with_reducible refine gate_dst (N := 1) rfl ?_); (try (refine gate_guard (by rfl) ?_; dsimp only)); refine box_event ?hg (N := 1) ?hd (cs := #[.slice A0_0 l0_0.length c0_0, .slice A0_1 l0_1.length c0_1]) (t := 28) ?hr ?_; (case hd => rfl); (case hg => rfl); (case hr => first | (go_simp; done) | (go_simp; rfl)); intro gb180 hg w3 hbox hb; have BK180 := Aside0.mk (hbox); have GW180 := Aside0.mk ((by rw [hg]; exact (below_size (bU HB.out)) : w.heap.size ≤ gb180)); have GE180 := Aside0.mk ((by rw [hg]; exact (below_size (bU HB.out)) : w.heap.size ≤ gb180)); replace HB := Aside0.mk (below_step (bU HB.out) hb); clear hb hbox hg))
 (try simp only [Act.put, List.setIfInBounds_toArray, List.set_cons_zero, List.set_cons_succ])
 go_cut [14] (fun v14 wc => ∃ (kq : Nat) (x14_1 : Bool), v14 = .bool x14_1 ∧ Aside0 (impl_Rows.j0 kq x14_1 l0_0 l0_1 = some r) ∧ Aside0 (kq ≤ k) ∧ Aside0 (wc.heap[gb180]? = some (.cells #[(.slice A0_0 l0_0.length c0_0), (.slice A0_1 l0_1.length c0_1)] 28 (0, 0))) ∧ Aside0 (Below w.heap.size w wc))
 case first =>
  have H := HC2.out
  clear HC2
  replace H := Option.bind_eq_some_iff.mp H
  obtain ⟨t181, A40, H⟩ := H
  replace H : (if t181 = true then (impl_Rows.j0 k ((l0_0.length : Int) == 0) l0_0 l0_1) else (impl_Rows.j0 k true l0_0 l0_1)) = some r := H
  have A4 := Aside0.mk A40
  clear A40
  by_cases c5 : t181 = true
  ·
   subst c5
   have H1 : (impl_Rows.j0 k ((l0_0.length : Int) == 0) l0_0 l0_1) = some r := by rw [if_pos rfl] at H; exact H
   clear H
   have H := H1
   clear H1
   have H' := Aside0.mk H
   clear H
   have hcz6_0 : w3.cell? ⟨gb180, 0, none⟩ = some (.slice A0_0 l0_0.length c0_0) := (blk_cell BK180.out 0).trans rfl
   have hcz6_1 : w3.cell? ⟨gb180, 1, none⟩ = some (.slice A0_1 l0_1.length c0_1) := (blk_cell BK180.out 1).trans rfl
   have hfz6_0 := blk_frozen BK180.out 0
   have hfz6_1 := blk_frozen BK180.out 1
   go_wp2_with (first | ((with_reducible refine gate_callee (f := 21) rfl ?_); refine goesL_ (some 7) rfl rfl Try.func21 (by kernel_rfl) rfl #[.agg #[.slice A0_0 l0_0.length c0_0, .slice A0_1 l0_1.length c0_1]] rfl lU ?_; (with_reducible refine (impl_ArrayOk.calls k _ _ l0_0 _ _ l0_1 true _ ?side1 ?side2 ?side3 ?side4 A4.out).mono ?_); (case side1 => exact cU (Kd.C_below HR0_0.out HB.out)); (case side2 => exact HC0_0.out); (case side3 => exact cU (Kd.C_below HR0_1.out HB.out)); (case side4 => exact HC0_1.out); rintro e w7 ⟨rfl, hb⟩; refine ⟨_, rfl, ?_⟩; replace BK180 := Aside0.mk (kB BK180.out hb); replace HB := Aside0.mk (below_step (bS1 HB.out GE180.out) hb); (try clear hb); (try clear hb2); (try clear hk); (try clear hi); have hcz8_0 : w7.cell? ⟨gb180, 0, none⟩ = some (.slice A0_0 l0_0.length c0_0) := (blk_cell BK180.out 0).trans rfl; have hcz8_1 : w7.cell? ⟨gb180, 1, none⟩ = some (.slice A0_1 l0_1.length c0_1) := (blk_cell BK180.out 1).trans rfl; have hfz8_0 := blk_frozen BK180.out 0; have hfz8_1 := blk_frozen BK180.out 1))
   go_meet
   case rel => exact ⟨_, (((l0_0.length : Int) == 0)), (by first | rfl | (simp; done) | (simp [*]; done)), H', ⟨by first | omega | exact Nat.le_refl _⟩, ⟨by refine kU ?_; exact BK180.out⟩, ⟨by exact bS1 HB.out GE180.out⟩⟩
  ·
   replace c5 := Bool.eq_false_iff.mpr c5
   subst c5
   have H1 : (impl_Rows.j0 k true l0_0 l0_1) = some r := by rw [if_neg (show ¬ (false = true) by decide)] at H; exact H
   clear H
   have H := H1
   clear H1
   have H' := Aside0.mk H
   clear H
   have hcz9_0 : w3.cell? ⟨gb180, 0, none⟩ = some (.slice A0_0 l0_0.length c0_0) := (blk_cell BK180.out 0).trans rfl
   have hcz9_1 : w3.cell? ⟨gb180, 1, none⟩ = some (.slice A0_1 l0_1.length c0_1) := (blk_cell BK180.out 1).trans rfl
   have hfz9_0 := blk_frozen BK180.out 0
   have hfz9_1 := blk_frozen BK180.out 1
   go_wp2_with (first | ((with_reducible refine gate_callee (f := 21) rfl ?_); refine goesL_ (some 7) rfl rfl Try.func21 (by kernel_rfl) rfl #[.agg #[.slice A0_0 l0_0.length c0_0, .slice A0_1 l0_1.length c0_1]] rfl lU ?_; (with_reducible refine (impl_ArrayOk.calls k _ _ l0_0 _ _ l0_1 false _ ?side1 ?side2 ?side3 ?side4 A4.out).mono ?_); (case side1 => exact cU (Kd.C_below HR0_0.out HB.out)); (case side2 => exact HC0_0.out); (case side3 => exact cU (Kd.C_below HR0_1.out HB.out)); (case side4 => exact HC0_1.out); rintro e w10 ⟨rfl, hb⟩; refine ⟨_, rfl, ?_⟩; replace BK180 := Aside0.mk (kB BK180.out hb); replace HB := Aside0.mk (below_step (bS1 HB.out GE180.out) hb); (try clear hb); (try clear hb2); (try clear hk); (try clear hi)))
   go_meet
   case rel => exact ⟨_, (true), (by first | rfl | (simp; done) | (simp [*]; done)), H', ⟨by first | omega | exact Nat.le_refl _⟩, ⟨by refine kU ?_; exact BK180.out⟩, ⟨by exact bS1 HB.out GE180.out⟩⟩
 case rest =>
  clear HC2
  try clear c2
  try clear p2
  try clear c5
  try clear c8
  try clear hcz6_0
  try clear hcz6_1
  try clear hcz8_0
  try clear hcz8_1
  try clear hcz9_0
  try clear hcz9_1
  try clear hfz6_0
  try clear hfz6_1
  try clear hfz8_0
  try clear hfz8_1
  try clear hfz9_0
  try clear hfz9_1
  obtain ⟨kq, x14_1, rfl, HA, HJ1, BK180, HB⟩ := hcut
  cases kq with
  | zero => exact absurd HA.out (by simp [impl_Rows.j0])
  | succ kj1 =>
   have H := HA.out
   clear HA
   simp only [impl_Rows.j0] at H
   by_cases c11 : x14_1 = true
   ·
    subst c11
    have H1 : (some ([] : List (S28))) = some r := by rw [if_pos rfl] at H; exact H
    clear H
    have H := H1
    clear H1
    obtain rfl := Option.some.inj H
    go_wp2
    go_ret
    exact ⟨_, by first | rfl | (simp [errW_none, errW_some] <;> rfl) | (simp [*, errW_none, errW_some] <;> rfl), by first | exact Kd.S_nil _ _ _ _ _ | exact Kd.N_nil _ _ _ _ _ | exact Kd.V_nil _ _ _ _ _ | exact Kd.Q_nil _ _ _ _ _ | exact Kd.R_nil _ _ _ _ _, by exact bS1 HB.out GE180.out⟩
   ·
    replace c11 := Bool.eq_false_iff.mpr c11
    subst c11
    have H1 : (if 1 ≤ (l0_0.length : Int) then ((impl_SizeOf.f kj1 (l0_0.drop 1)).bind fun t183 => (impl_Rows.l0 kj1 t183 ([] : List (S28)) 0 l0_0 l0_1)) else (none)) = some r := by rw [if_neg (show ¬ (false = true) by decide)] at H; exact H
    clear H
    have H := H1
    clear H1
    by_cases c12 : 1 ≤ (l0_0.length : Int)
    ·
     rw [if_pos c12] at H
     have c12b0 := eq_true c12
     have c12b1 : decide (1 ≤ (l0_0.length : Int)) = true := decide_eq_true c12
     clear c12
     replace H := Option.bind_eq_some_iff.mp H
     obtain ⟨t183, A130, H⟩ := H
     replace H : (impl_Rows.l0 kj1 t183 ([] : List (S28)) 0 l0_0 l0_1) = some r := H
     have A13 := Aside0.mk A130
     clear A130
     have H' := Aside0.mk H
     clear H
     have hcz14_0 : wc.cell? ⟨gb180, 0, none⟩ = some (.slice A0_0 l0_0.length c0_0) := (blk_cell BK180.out 0).trans rfl
     have hcz14_1 : wc.cell? ⟨gb180, 1, none⟩ = some (.slice A0_1 l0_1.length c0_1) := (blk_cell BK180.out 1).trans rfl
     have hfz14_0 := blk_frozen BK180.out 0
     have hfz14_1 := blk_frozen BK180.out 1
     obtain ⟨i015, hi015, _, hsz15, _⟩ := info_parts info3
     obtain ⟨A15, hcut15, hA15, hC15⟩ := print_drop_of (P := Try.prog) (Value.int .i64) 0 22 3 .i64 Try.underlying22 hi015 hsz15 A0_0 c0_0 l0_0 1 (by omega) (of_decide_eq_true (by first | (with_reducible assumption) | assumption)) HC0_0.out
     have HR182 := Aside0.mk (Kd.C_of_reads (h1 := fun _ => rfl) (hA15 _ (Kd.reads_of_C HR0_0.out)))
     have HC182 := Aside0.mk hC15
     clear hA15 hC15 hi015 hsz15
     go_wp2_with (first | ((with_reducible refine gate_callee (f := 22) rfl ?_); refine goesL_ (some 18) rfl rfl Try.func22 (by kernel_rfl) rfl #[.slice A15 (l0_0.drop 1).length (c0_0 - 1)] rfl (by (try simp only [List.map_toArray, List.map_cons, List.map_nil]); first | done | (rw [show (l0_0.drop 1).length = (l0_0.length - 1) from List.length_drop] <;> rfl) | rfl | (simp only [List.length_drop, List.length_take]; rfl)) ?_; (with_reducible refine (impl_SizeOf.calls kj1 _ _ (l0_0.drop 1) t183 _ ?side1 ?side2 A13.out).mono ?_); (case side1 => exact cU (Kd.C_below HR182.out HB.out)); (case side2 => exact HC182.out); rintro e w' ⟨rfl, ⟨nd, rfl⟩⟩; refine ⟨_, rfl, ?_⟩))
     go_loopg [4, 5] kj1 (fun kq v4 v5 w' => ∃ (x4_2 : List (S28)) (x5_2 : Int), v5 = .int .i64 x5_2 ∧ Aside0 (impl_Rows.l0 kq t183 x4_2 x5_2 l0_0 l0_1 = some r) ∧ Aside0 (kq ≤ kj1) ∧ Aside0 (Kd.S k28 28 w' w.heap.size (fun k_ => k_ ≠ gb180) v4 x4_2) ∧ Aside0 (w'.heap[gb180]? = some (.cells #[(.slice A0_0 l0_0.length c0_0), (.slice A0_1 l0_1.length c0_1)] 28 (0, 0))) ∧ Aside0 (Below w.heap.size w w'))
     case atStart => exact ⟨(([] : List (S28))), (0), (by first | rfl | (simp; done) | (simp [*]; done)), H', ⟨Nat.le_refl _⟩, ⟨by first | exact Kd.S_nil _ _ _ _ _ | exact Kd.N_nil _ _ _ _ _ | exact Kd.V_nil _ _ _ _ _ | exact Kd.Q_nil _ _ _ _ _ | exact Kd.R_nil _ _ _ _ _⟩, ⟨by refine kU ?_; exact BK180.out⟩, ⟨by exact bS1 HB.out GE180.out⟩⟩
     case round =>
      clear H'
      try clear c1
      try clear c2
      try clear p2
      try clear c5
      try clear c8
      try clear c11
      try clear c12
      try clear c12b0
      try clear c12b1
      try clear hcz14_0
      try clear hcz14_1
      try clear hcz6_0
      try clear hcz6_1
      try clear hcz8_0
      try clear hcz8_1
      try clear hcz9_0
      try clear hcz9_1
      try clear hfz14_0
      try clear hfz14_1
      try clear hfz6_0
      try clear hfz6_1
      try clear hfz8_0
      try clear hfz8_1
      try clear hfz9_0
      try clear hfz9_1
      try clear p2
      obtain ⟨x4_2, x5_2, rfl, HA, HK2, HO_4, BK180, HB⟩ := hrel
      cases gk with
      | zero => exact absurd HA.out (by simp [impl_Rows.l0])
      | succ k2 =>
       have H := HA.out
       clear HA
       simp only [impl_Rows.l0] at H
       by_cases c16 : 0 < (l0_0.length : Int)
       ·
        rw [if_pos c16] at H
        have c16b0 : decide (0 < (l0_0.length : Int)) = true := decide_eq_true c16
        have c16b1 : decide (0 < l0_0.length) = true := decide_eq_true (by omega)
        clear c16
        by_cases c17 : x5_2 < (rd l0_0 0)
        ·
         rw [if_pos c17] at H
         have c17b0 : decide (x5_2 < (rd l0_0 0)) = true := decide_eq_true c17
         clear c17
         by_cases c18 : 1 ≤ (l0_0.length : Int)
         ·
          rw [if_pos c18] at H
          have c18b0 := eq_true c18
          have c18b1 : decide (1 ≤ (l0_0.length : Int)) = true := decide_eq_true c18
          clear c18
          obtain ⟨ji19, hji19⟩ : ∃ j_ : Int, (wrap64 (x5_2 * t183)) = j_ := ⟨_, rfl⟩
          replace H : (if 0 ≤ (ji19) then (if (ji19) ≤ (wrap64 ((wrap64 (x5_2 + 1)) * t183)) then (if (wrap64 ((wrap64 (x5_2 + 1)) * t183)) ≤ (l0_1.length : Int) then ((impl_copyArray.f (l0_0.drop 1) ((l0_1.take ((wrap64 ((wrap64 (x5_2 + 1)) * t183)) : Int).toNat).drop ((ji19) : Int).toNat)).bind fun bt187 => (if x4_2.length < 2932031007402 then (impl_Rows.l0 k2 t183 (x4_2 ++ [(⟨bt187.1, bt187.2⟩ : S28)]) (wrap64 (x5_2 + 1)) l0_0 l0_1) else (none))) else (none)) else (none)) else (none)) = some r := by first | (rw [hji19] at H; exact H) | (simp only [hji19] at H ⊢; exact H)
          have hji19w : (IntKind.i64.wrap (x5_2 * t183)) = ji19 := (i64_w _).trans hji19
          by_cases c20 : 0 ≤ (ji19)
          ·
           rw [if_pos c20] at H
           have c20b0 := eq_true c20
           have c20b1 : decide (0 ≤ (ji19)) = true := decide_eq_true c20
           clear c20
           by_cases c21 : (ji19) ≤ (wrap64 ((wrap64 (x5_2 + 1)) * t183))
           ·
            rw [if_pos c21] at H
            have c21b0 := eq_true c21
            have c21b1 : decide ((ji19) ≤ (wrap64 ((wrap64 (x5_2 + 1)) * t183))) = true := decide_eq_true c21
            by_cases c22 : (wrap64 ((wrap64 (x5_2 + 1)) * t183)) ≤ (l0_1.length : Int)
            ·
             rw [if_pos c22] at H
             have c22b0 := eq_true c22
             have c22b1 : decide ((wrap64 ((wrap64 (x5_2 + 1)) * t183)) ≤ (l0_1.length : Int)) = true := decide_eq_true c22
             replace H := Option.bind_eq_some_iff.mp H
             obtain ⟨⟨t187, t190⟩, A230, H⟩ := H
             replace H : (if x4_2.length < 2932031007402 then (impl_Rows.l0 k2 t183 (x4_2 ++ [(⟨t187, t190⟩ : S28)]) (wrap64 (x5_2 + 1)) l0_0 l0_1) else (none)) = some r := H
             have A23 := Aside0.mk A230
             clear A230
             by_cases c24 : x4_2.length < 2932031007402
             ·
              rw [if_pos c24] at H
              have LMc24 := Aside0.mk c24
              clear c24
              obtain ⟨y193, hy193⟩ : ∃ y_ : List (S28), y_ = (x4_2 ++ [(⟨t187, t190⟩ : S28)]) := ⟨_, rfl⟩
              replace H : (impl_Rows.l0 k2 t183 y193 (wrap64 (x5_2 + 1)) l0_0 l0_1) = some r := by first | (rw [hy193]; with_reducible exact H) | (have H2_ := (Option.bind_some _ _).symm.trans H; rw [hy193]; with_reducible exact H2_) | (have H2_ := (Option.bind_some _ _).symm.trans H; with_reducible exact H2_) | with_reducible exact H | (rw [hy193]; exact H) | exact H
              have Ny193 := Aside0.mk hy193
              clear hy193
              have H' := Aside0.mk H
              clear H
              have hcz25_0 : wr.cell? ⟨gb180, 0, none⟩ = some (.slice A0_0 l0_0.length c0_0) := (blk_cell BK180.out 0).trans rfl
              have hcz25_1 : wr.cell? ⟨gb180, 1, none⟩ = some (.slice A0_1 l0_1.length c0_1) := (blk_cell BK180.out 1).trans rfl
              have hfz25_0 := blk_frozen BK180.out 0
              have hfz25_1 := blk_frozen BK180.out 1
              have p184 : 0 ≤ (0 : Int) := (by omega)
              have q184 : 0 < (l0_0.length : Int) := of_decide_eq_true (by first | (with_reducible assumption) | assumption)
              obtain ⟨ad184, e184, hx184_0⟩ := Kd.at_int HR0_0.out 0 p184 q184
              cases e184
              have qi184 : (0 < l0_0.length) = True := eq_true (by omega)
              (try rw [show ((0 : Int)).toNat = 0 from rfl] at hx184_0)
              (try rw [Addr.add_zero'] at hx184_0)
              replace hx184_0 := (HB.out.cell (World.block_lt_of_cell? w _ hx184_0)).trans hx184_0
              replace p184 := eq_true p184
              replace q184 := eq_true q184
              try go_wp2
              replace HO_4 := Aside0.mk (Kd.S_drew HO_4.out)
              replace BK180 := Aside0.mk (blk_drew BK180.out)
              replace HB := Aside0.mk (below_drew1 HB.out)
              obtain ⟨i027, hi027, _, hsz27, _⟩ := info_parts info3
              (try clear hcut15)
              obtain ⟨A27, hcut27, hA27, hC27⟩ := print_drop_of (P := Try.prog) (Value.int .i64) 0 22 3 .i64 Try.underlying22 hi027 hsz27 (some ad184) c0_0 l0_0 1 (by omega) (of_decide_eq_true (by first | (with_reducible assumption) | assumption)) HC0_0.out
              have HR185 := Aside0.mk (Kd.C_of_reads (h1 := fun _ => rfl) (hA27 _ (Kd.reads_of_C HR0_0.out)))
              have HC185 := Aside0.mk hC27
              clear hA27 hC27 hi027 hsz27
              obtain ⟨i028, hi028, _, hsz28, _⟩ := info_parts info3
              obtain ⟨A28, hcut28, hA28, hC28⟩ := print_mid_of (P := Try.prog) (Value.int .i64) 0 22 3 .i64 .i64 Try.underlying22 hi028 hsz28 A0_1 c0_1 l0_1 (ji19) (wrap64 ((wrap64 (x5_2 + 1)) * t183)) (of_decide_eq_true (by first | (with_reducible assumption) | assumption)) (by first | omega | exact of_decide_eq_true (by first | (with_reducible assumption) | assumption)) (of_decide_eq_true (by first | (with_reducible assumption) | assumption)) HC0_1.out
              have HR186 := Aside0.mk (Kd.C_of_reads (h1 := fun _ => rfl) (hA28 _ (Kd.reads_of_C HR0_1.out)))
              have HC186 := Aside0.mk hC28
              clear hA28 hC28 hi028 hsz28
              refine start_ (n := 19) (S := fun w' => w'.cell? ⟨gb180, 0, none⟩ = some (.slice (some ad184) l0_0.length c0_0) ∧ w'.cell? ⟨gb180, 1, none⟩ = some (.slice A0_1 l0_1.length c0_1)) (ds := []) #[false, false, false, false, false, false, false, false, false, false, false, false, false, false, false, false, false, false, false] (by kernel_rfl) rfl rfl ⟨(blk_cell BK180.out 0).trans rfl, (blk_cell BK180.out 1).trans rfl⟩ (fun hHeld => ?_); refine with_tabW impl_Rows.tab8 impl_Rows.bits8 (fun HT_ HW_ => ?_)
              generalize wr.drew = w26 at HO_4 BK180 HB HR185 HR186 hHeld ⊢
              refine pure_ (i := 0) (N := some 27) (v := ?_) (a' := ?_) #[true, false, false, false, false, false, false, false, false, false, false, false, false, false, false, false, false, false, false] rfl rfl (any_of HT_.out (by kernel_rfl)) (fun _ _ _ h => h) (Or.inl ⟨by rfl, ?_⟩) ?_ ?_
              rotate_left
              ·
               intro w'
               go_simp
               with_reducible rfl
              rotate_left
              ·
               simp only [Act.put, List.setIfInBounds_toArray, List.set_cons_zero, List.set_cons_succ, i64_w, i32_w]
               rfl
              refine pure_ (i := 1) (N := some 28) (v := ?_) (a' := ?_) #[true, true, false, false, false, false, false, false, false, false, false, false, false, false, false, false, false, false, false] rfl rfl (any_of HT_.out (by kernel_rfl)) (fun _ _ _ h => h) (Or.inl ⟨by rfl, ?_⟩) ?_ ?_
              rotate_left
              ·
               intro w'
               go_simp
               with_reducible rfl
              rotate_left
              ·
               simp only [Act.put, List.setIfInBounds_toArray, List.set_cons_zero, List.set_cons_succ, i64_w, i32_w]
               rfl
              refine pure_ (i := 4) (N := some 31) (v := ?_) (a' := ?_) #[true, true, false, false, true, false, false, false, false, false, false, false, false, false, false, false, false, false, false] rfl rfl (any_of HT_.out (by kernel_rfl)) (fun _ _ _ h => h) (Or.inl ⟨by rfl, ?_⟩) ?_ ?_
              rotate_left
              ·
               intro w'
               go_simp
               with_reducible rfl
              rotate_left
              ·
               simp only [Act.put, List.setIfInBounds_toArray, List.set_cons_zero, List.set_cons_succ, i64_w, i32_w]
               rfl
              refine pure_ (i := 6) (N := some 33) (v := ?_) (a' := ?_) #[true, true, false, false, true, false, true, false, false, false, false, false, false, false, false, false, false, false, false] rfl rfl (any_of HT_.out (by kernel_rfl)) (fun _ _ _ h => h) (Or.inl ⟨by rfl, ?_⟩) ?_ ?_
              rotate_left
              ·
               intro w'
               go_simp
               with_reducible rfl
              rotate_left
              ·
               simp only [Act.put, List.setIfInBounds_toArray, List.set_cons_zero, List.set_cons_succ, i64_w, i32_w]
               rfl
              refine pure_ (i := 7) (N := some 34) (v := ?_) (a' := ?_) #[true, true, false, false, true, false, true, true, false, false, false, false, false, false, false, false, false, false, false] rfl rfl (any_of HT_.out (by kernel_rfl)) (fun _ _ _ h => h) (Or.inl ⟨by rfl, ?_⟩) ?_ ?_
              rotate_left
              ·
               intro w'
               go_simp
               with_reducible rfl
              rotate_left
              ·
               simp only [Act.put, List.setIfInBounds_toArray, List.set_cons_zero, List.set_cons_succ, i64_w, i32_w]
               rfl
              refine pure_ (i := 8) (N := some 35) (v := ?_) (a' := ?_) #[true, true, false, false, true, false, true, true, true, false, false, false, false, false, false, false, false, false, false] rfl rfl (any_of HT_.out (by kernel_rfl)) (fun _ _ _ h => h) (Or.inl ⟨by rfl, ?_⟩) ?_ ?_
              rotate_left
              ·
               intro w'
               go_simp
               with_reducible rfl
              rotate_left
              ·
               simp only [Act.put, List.setIfInBounds_toArray, List.set_cons_zero, List.set_cons_succ, i64_w, i32_w]
               rfl
              refine pure_ (i := 9) (N := some 36) (v := ?_) (a' := ?_) #[true, true, false, false, true, false, true, true, true, true, false, false, false, false, false, false, false, false, false] rfl rfl (any_of HT_.out (by kernel_rfl)) (fun _ _ _ h => h) (Or.inl ⟨by rfl, ?_⟩) ?_ ?_
              rotate_left
              ·
               intro w'
               go_simp
               with_reducible rfl
              rotate_left
              ·
               simp only [Act.put, List.setIfInBounds_toArray, List.set_cons_zero, List.set_cons_succ, i64_w, i32_w]
               rfl
              refine pure_ (i := 10) (N := some 37) (v := ?_) (a' := ?_) #[true, true, false, false, true, false, true, true, true, true, true, false, false, false, false, false, false, false, false] rfl rfl (any_of HT_.out (by kernel_rfl)) (fun _ _ _ h => h) (Or.inl ⟨by rfl, ?_⟩) ?_ ?_
              rotate_left
              ·
               intro w'
               go_simp
               with_reducible rfl
              rotate_left
              ·
               simp only [Act.put, List.setIfInBounds_toArray, List.set_cons_zero, List.set_cons_succ, i64_w, i32_w]
               rfl
              refine pure_ (i := 11) (N := some 38) (v := ?_) (a' := ?_) #[true, true, false, false, true, false, true, true, true, true, true, true, false, false, false, false, false, false, false] rfl rfl (any_of HT_.out (by kernel_rfl)) (fun _ _ _ h => h) (Or.inl ⟨by rfl, ?_⟩) ?_ ?_
              rotate_left
              ·
               intro w'
               go_simp
               with_reducible rfl
              rotate_left
              ·
               simp only [Act.put, List.setIfInBounds_toArray, List.set_cons_zero, List.set_cons_succ, i64_w, i32_w]
               rfl
              refine pure_ (i := 12) (N := some 39) (v := ?_) (a' := ?_) #[true, true, false, false, true, false, true, true, true, true, true, true, true, false, false, false, false, false, false] rfl rfl (any_of HT_.out (by kernel_rfl)) (fun _ _ _ h => h) (Or.inl ⟨by rfl, ?_⟩) ?_ ?_
              rotate_left
              ·
               intro w'
               go_simp
               with_reducible rfl
              rotate_left
              ·
               simp only [Act.put, List.setIfInBounds_toArray, List.set_cons_zero, List.set_cons_succ, i64_w, i32_w]
               rfl
              refine take_ (i := 2) (N := some 29) (v := ?_) (a' := ?_) #[true, true, true, false, true, false, true, true, true, true, true, true, true, false, false, false, false, false, false] rfl rfl (take_ofW HT_.out HW_.out (by kernel_rfl)) (fun _ _ _ h => h) (Or.inl ⟨by rfl, ?_⟩) hHeld ?_ ?_
              rotate_left
              ·
               rintro w' ⟨s0, s1⟩
               go_simp
               with_reducible rfl
              rotate_left
              ·
               simp only [Act.put, List.setIfInBounds_toArray, List.set_cons_zero, List.set_cons_succ, i64_w, i32_w]
               rfl
              refine pure_ (i := 3) (N := some 30) (v := ?_) (a' := ?_) #[true, true, true, true, true, false, true, true, true, true, true, true, true, false, false, false, false, false, false] rfl rfl (any_of HT_.out (by kernel_rfl)) (fun _ _ _ h => h) (Or.inl ⟨by rfl, ?_⟩) ?_ ?_
              rotate_left
              ·
               intro w'
               go_simp
               with_reducible rfl
              rotate_left
              ·
               simp only [Act.put, List.setIfInBounds_toArray, List.set_cons_zero, List.set_cons_succ, i64_w, i32_w]
               rfl
              refine take_ (i := 5) (N := some 32) (v := ?_) (a' := ?_) #[true, true, true, true, true, true, true, true, true, true, true, true, true, false, false, false, false, false, false] rfl rfl (take_ofW HT_.out HW_.out (by kernel_rfl)) (fun _ _ _ h => h) (Or.inl ⟨by rfl, ?_⟩) hHeld ?_ ?_
              rotate_left
              ·
               rintro w' ⟨s0, s1⟩
               go_simp
               with_reducible rfl
              rotate_left
              ·
               simp only [Act.put, List.setIfInBounds_toArray, List.set_cons_zero, List.set_cons_succ, i64_w, i32_w]
               rfl
              refine pure_ (i := 13) (N := some 40) (v := ?_) (a' := ?_) #[true, true, true, true, true, true, true, true, true, true, true, true, true, true, false, false, false, false, false] rfl rfl (any_of HT_.out (by kernel_rfl)) (fun _ _ _ h => h) (Or.inl ⟨by rfl, ?_⟩) ?_ ?_
              rotate_left
              ·
               intro w'
               go_simp
               with_reducible rfl
              rotate_left
              ·
               simp only [Act.put, List.setIfInBounds_toArray, List.set_cons_zero, List.set_cons_succ, i64_w, i32_w]
               rfl
              refine pure_ (i := 14) (N := some 41) (v := ?_) (a' := ?_) #[true, true, true, true, true, true, true, true, true, true, true, true, true, true, true, false, false, false, false] rfl rfl (any_of HT_.out (by kernel_rfl)) (fun _ _ _ h => h) (Or.inl ⟨by rfl, ?_⟩) ?_ ?_
              rotate_left
              ·
               intro w'
               go_simp
               with_reducible rfl
              rotate_left
              ·
               simp only [Act.put, List.setIfInBounds_toArray, List.set_cons_zero, List.set_cons_succ, i64_w, i32_w]
               rfl
              refine one_ (i := 15) (N := some 42) #[true, true, true, true, true, true, true, true, true, true, true, true, true, true, true, true, false, false, false] rfl rfl (one_of HT_.out (by kernel_rfl)) (by decide) (fun K hK => ?_)
              refine goes_ Try.func23 (by kernel_rfl) rfl #[.agg #[.slice A27 (l0_0.drop 1).length (c0_0 - 1), .slice A28 ((l0_1.take ((wrap64 ((wrap64 (x5_2 + 1)) * t183)) : Int).toNat).drop ((ji19) : Int).toNat).length (c0_1 - (ji19).toNat)]] (by rfl) rfl rfl (by (try simp only [List.map_toArray, List.map_cons, List.map_nil]); first | done | (rw [show (l0_0.drop 1).length = (l0_0.length - 1) from List.length_drop] <;> rfl) | (rw [show ((l0_1.take ((wrap64 ((wrap64 (x5_2 + 1)) * t183)) : Int).toNat).drop ((ji19) : Int).toNat).length = ((wrap64 ((wrap64 (x5_2 + 1)) * t183)).toNat - (ji19).toNat) from (by rw [List.length_drop, List.length_take]; have h_ : ((wrap64 ((wrap64 (x5_2 + 1)) * t183)) : Int) ≤ (l0_1.length : Int) := of_decide_eq_true (by first | (with_reducible assumption) | assumption); omega)] <;> rfl) | (simp only [hji19]; rfl) | rfl | (simp only [List.length_drop, List.length_take]; rfl) | (rw [show (l0_0.drop 1).length = (l0_0.length - 1) from List.length_drop, show ((l0_1.take ((wrap64 ((wrap64 (x5_2 + 1)) * t183)) : Int).toNat).drop ((ji19) : Int).toNat).length = ((wrap64 ((wrap64 (x5_2 + 1)) * t183)).toNat - (ji19).toNat) from (by rw [List.length_drop, List.length_take]; have h_ : ((wrap64 ((wrap64 (x5_2 + 1)) * t183)) : Int) ≤ (l0_1.length : Int) := of_decide_eq_true (by first | (with_reducible assumption) | assumption); omega)] <;> rfl)) ?_
              with_reducible refine (impl_copyArray.calls _ _ (l0_0.drop 1) _ _ ((l0_1.take ((wrap64 ((wrap64 (x5_2 + 1)) * t183)) : Int).toNat).drop ((ji19) : Int).toNat) t187 t190 _ ?side1 ?side2 ?side3 ?side4 A23.out).mono ?_
              (case side1 => exact cU (Kd.C_below HR185.out HB.out))
              (case side2 => exact HC185.out)
              (case side3 => exact cU (Kd.C_below HR186.out HB.out))
              (case side4 => exact HC186.out)
              rintro e w29 ⟨v188, v191, rfl, ho0, ho1, hb⟩
              refine ⟨_, rfl, ?_⟩
              replace HO_4 := Aside0.mk (Kd.S_mono (Kd.S_told (Kd.S_told (Kd.S_old (SU HO_4.out) hb) (Kd.R_base ho0)) (Kd.R_base ho1)) (fun _ h_ => h_.1))
              have HAPT189 := Aside0.mk (show ∀ k_, _ from fun k_ (e0_ : Value.ownBlock _ = some k_) (e1_ : Value.ownBlock _ = some k_) => ho0.1 k_ e0_ e1_.symm); have HO189 := Aside0.mk (Kd.R_lower ho0 (below_size (bS1 HB.out GE180.out)))
              have HO192 := Aside0.mk (Kd.R_lower ho1 (below_size (bS1 HB.out GE180.out)))
              replace BK180 := Aside0.mk (kB BK180.out hb)
              replace HB := Aside0.mk (below_step (bS1 HB.out GE180.out) hb)
              (try clear hb)
              (try clear hb2)
              (try clear hk)
              (try clear hi)
              (try clear ho0)
              (try clear ho1)
              obtain ⟨Ao31, co31, eo31⟩ := Kd.R_slice HO189.out
              (first | subst eo31 | (injection eo31 with f1_ f2_ f3_; have f4_ := f1_.symm; have f5_ := f3_.symm; clear f1_ f2_ f3_; subst f4_; subst f5_))
              obtain ⟨Ao32, co32, eo32⟩ := Kd.R_slice HO192.out
              (first | subst eo32 | (injection eo32 with f1_ f2_ f3_; have f4_ := f1_.symm; have f5_ := f3_.symm; clear f1_ f2_ f3_; subst f4_; subst f5_))
              refine hK.out _ _ ⟨(blk_cell BK180.out 0).trans rfl, (blk_cell BK180.out 1).trans rfl⟩ (fun hHeld => ?_)
              clear hK K
              refine norm_ (a' := ?_) ?_ ?_
              rotate_left
              ·
               show Act.put _ (some 42) _ = _
               simp only [Act.put, List.setIfInBounds_toArray, List.set_cons_zero, List.set_cons_succ, i64_w, i32_w]
               rfl
              refine one_ (i := 16) (N := some 43) #[true, true, true, true, true, true, true, true, true, true, true, true, true, true, true, true, true, false, false] rfl rfl (one_of HT_.out (by kernel_rfl)) (by decide) (fun K hK => ?_)
              refine value_ (w1 := ?_) (v := ?_) (by rfl) rfl ?_ ?_
              rotate_left 2
              ·
               go_simp
               constructor
               ·
                rfl
               ·
                rfl
              refine hK.out _ _ ⟨(blk_cell (blk_alloc BK180.out _) 0).trans rfl, (blk_cell (blk_alloc BK180.out _) 1).trans rfl⟩ (fun hHeld => ?_)
              clear hK K
              refine norm_ (a' := ?_) ?_ ?_
              rotate_left
              ·
               show Act.put _ (some 43) _ = _
               simp only [Act.put, List.setIfInBounds_toArray, List.set_cons_zero, List.set_cons_succ, i64_w, i32_w]
               rfl
              refine one_ (i := 17) (N := some 44) #[true, true, true, true, true, true, true, true, true, true, true, true, true, true, true, true, true, true, false] rfl rfl (one_of HT_.out (by kernel_rfl)) (by decide) (fun K hK => ?_)
              refine Kd.S_append_step k28 (w0 := w) w.heap.size (by rfl) (.tmp 27) (.tmp 43) 26 28 (.agg #[(.slice none 0 0), (.slice none 0 0)]) 48 rfl Try.underlying26 info28 rfl (by decide) (by omega) u4 x4_2 (⟨t187, t190⟩ : S28) [.slice Ao31 t187.length co31, .slice Ao32 t190.length co32] (fun k_ => k_ ≠ gb180) (fun k_ => some k_ = (.slice Ao31 t187.length co31 : Value).ownBlock ∨ some k_ = (.slice Ao32 t190.length co32 : Value).ownBlock) rfl rfl ?aP (fun k_ hk_ => hk_.elim (fun h_ => ((Kd.R_mono (ok' := fun k_ => ((fun k_ => k_ ≠ gb180)) k_ ∧ some k_ ≠ (u4 : Value).ownBlock) (Kd.R_types (Kd.R_apart' (HO189.out) (Kd.S_typed HO_4.out) (by decide)) BK180.out (by decide)) (fun k_ hk => ⟨hk.2, hk.1.2⟩))).1 k_ h_.symm) (fun h_ => ((Kd.R_mono (ok' := fun k_ => ((fun k_ => k_ ≠ gb180)) k_ ∧ some k_ ≠ (u4 : Value).ownBlock) (Kd.R_types (Kd.R_apart' (HO192.out) (Kd.S_typed HO_4.out) (by decide)) BK180.out (by decide)) (fun k_ hk => ⟨hk.2, hk.1.2⟩))).1 k_ h_.symm)) ?aF ?aO ?aB ?aS ?aL ?_
              (case aP => exact k28_mkM _ _ _ (⟨t187, t190⟩ : S28) (Kd.R_mono (Kd.R_tight rfl (Kd.R_mono (ok' := fun k_ => ((fun k_ => k_ ≠ gb180)) k_ ∧ some k_ ≠ (u4 : Value).ownBlock) (Kd.R_types (Kd.R_apart' (HO189.out) (Kd.S_typed HO_4.out) (by decide)) BK180.out (by decide)) (fun k_ hk => ⟨hk.2, hk.1.2⟩))) (fun _ h_ => Or.inl h_)) (Kd.R_mono (Kd.R_tight rfl (Kd.R_mono (ok' := fun k_ => ((fun k_ => k_ ≠ gb180)) k_ ∧ some k_ ≠ (u4 : Value).ownBlock) (Kd.R_types (Kd.R_apart' (HO192.out) (Kd.S_typed HO_4.out) (by decide)) BK180.out (by decide)) (fun k_ hk => ⟨hk.2, hk.1.2⟩))) (fun _ h_ => Or.inr (h_))) (fun k_ e0_ e1_ => HAPT189.out k_ e0_ e1_))
              (case aB => exact (bS1 HB.out GE180.out))
              (case aF => exact (fun k_ hk => Kd.freshB (g := gb180) (o := .cells #[.slice (some ad184) l0_0.length c0_0, .slice A0_1 l0_1.length c0_1] 28 (0, 0)) (kU BK180.out) k_ hk))
              (case aO => exact (by refine SU ?_; exact Kd.S_mono HO_4.out (fun k_ hk => ⟨hk.1.1, fun e_ => e_.elim (fun h_ => hk.1.2 h_) (fun h_ => hk.2 h_)⟩)))
              (case aS => exact (below_size (bS1 HB.out GE180.out)))
              (case aL => have := LMc24.out; omega)
              intro v194 w30 ho hb hg hat
              rw [← Ny193.out] at ho
              have n0_ := Aside0.mk (blk_grown (g := gb180) (o := .cells #[.slice (some ad184) l0_0.length c0_0, .slice A0_1 l0_1.length c0_1] 28 (0, 0)) (kU BK180.out) hg (Kd.S_away HO_4.out (fun _ hk => hk.1.1)))
              have n1_ := Aside0.mk (hb)
              have n2_ := Aside0.mk (ho)
              clear BK180 HB HO_4 HO189 HO192
              have BK180 := n0_
              have HB := n1_
              have HO195 := n2_
              clear n0_ n1_ n2_
              clear ho hb hg hat
              refine hK.out _ _ ⟨(blk_cell BK180.out 0).trans rfl, (blk_cell BK180.out 1).trans rfl⟩ (fun hHeld => ?_)
              clear hK K
              refine norm_ (a' := ?_) ?_ ?_
              rotate_left
              ·
               show Act.put _ (some 44) _ = _
               simp only [Act.put, List.setIfInBounds_toArray, List.set_cons_zero, List.set_cons_succ, i64_w, i32_w]
               rfl
              refine pure_ (i := 18) (N := some 4) (v := ?_) (a' := ?_) #[true, true, true, true, true, true, true, true, true, true, true, true, true, true, true, true, true, true, true] rfl rfl (any_of HT_.out (by kernel_rfl)) (fun _ _ _ h => h) (Or.inl ⟨by rfl, ?_⟩) ?_ ?_
              rotate_left
              ·
               intro w'
               go_simp
               with_reducible rfl
              rotate_left
              ·
               simp only [Act.put, List.setIfInBounds_toArray, List.set_cons_zero, List.set_cons_succ, i64_w, i32_w]
               rfl
              refine done_ (done_of HT_.out (by kernel_rfl)) ?_
              try go_wp2
              go_roundg k2
              case measure => have := HJ1.out; have := HK2.out; omega
              case rel => exact ⟨(y193), (wrap64 (x5_2 + 1)), (by first | rfl | (simp; done) | (simp [*]; done)), H', ⟨by have := HJ1.out; have := HK2.out; omega⟩, ⟨by refine SU ?_; exact HO195.out⟩, ⟨by refine kU ?_; exact BK180.out⟩, ⟨by exact bS1 HB.out GE180.out⟩⟩
             ·
              rw [if_neg c24] at H
              exact absurd H (by simp)
            ·
             rw [if_neg c22] at H
             exact absurd H (by simp)
           ·
            rw [if_neg c21] at H
            exact absurd H (by simp)
          ·
           rw [if_neg c20] at H
           exact absurd H (by simp)
         ·
          rw [if_neg c18] at H
          exact absurd H (by simp)
        ·
         rw [if_neg c17] at H
         have c17b0 : decide (x5_2 < (rd l0_0 0)) = false := decide_eq_false c17
         clear c17
         obtain rfl := Option.some.inj H
         have hcz33_0 : wr.cell? ⟨gb180, 0, none⟩ = some (.slice A0_0 l0_0.length c0_0) := (blk_cell BK180.out 0).trans rfl
         have hcz33_1 : wr.cell? ⟨gb180, 1, none⟩ = some (.slice A0_1 l0_1.length c0_1) := (blk_cell BK180.out 1).trans rfl
         have hfz33_0 := blk_frozen BK180.out 0
         have hfz33_1 := blk_frozen BK180.out 1
         have p184 : 0 ≤ (0 : Int) := (by omega)
         have q184 : 0 < (l0_0.length : Int) := of_decide_eq_true (by first | (with_reducible assumption) | assumption)
         obtain ⟨ad184, e184, hx184_0⟩ := Kd.at_int HR0_0.out 0 p184 q184
         cases e184
         have qi184 : (0 < l0_0.length) = True := eq_true (by omega)
         (try rw [show ((0 : Int)).toNat = 0 from rfl] at hx184_0)
         (try rw [Addr.add_zero'] at hx184_0)
         replace hx184_0 := (HB.out.cell (World.block_lt_of_cell? w _ hx184_0)).trans hx184_0
         replace p184 := eq_true p184
         replace q184 := eq_true q184
         go_wp2
         go_ret
         exact ⟨_, by first | rfl | (simp [errW_none, errW_some] <;> rfl) | (simp [*, errW_none, errW_some] <;> rfl), by refine SU ?_; exact Kd.S_mono HO_4.out (fun _ hk => trivial), by exact bS1 HB.out GE180.out⟩
       ·
        rw [if_neg c16] at H
        exact absurd H (by simp)
    ·
     rw [if_neg c12] at H
     exact absurd H (by simp)

/-! ### laws_eqIntS: function 24 -/
def laws_eqIntS.l0 : Nat → List Int → List Int → Int → Option (Bool)
 | 0, _, _, _ => none
 | k + 1, x0, x1, x5 => if x5 < (x0.length : Int) then (if 0 ≤ x5 then (if x5 < (x1.length : Int) then (if (rd x0 x5) = (rd x1 x5) then (laws_eqIntS.l0 k x0 x1 (wrap64 (x5 + 1))) else (some false)) else (none)) else (none)) else (some true)
def laws_eqIntS.f (k : Nat) (l0 : List Int) (l1 : List Int) : Option (Bool) := if (l0.length : Int) = (l1.length : Int) then (laws_eqIntS.l0 k l0 l1 0) else (some false)
set_option maxHeartbeats 8000000 in
set_option maxRecDepth 100000 in
theorem laws_eqIntS.calls (k : Nat) (A0 : Option Addr) (c0 : Nat) (l0 : List Int) (A1 : Option Addr) (c1 : Nat) (l1 : List Int) (r : Bool) (w : World) (hr0 : Kd.C (Kd.int .i64) w A0 l0.length l0) (hc0 : l0.length ≤ c0) (hr1 : Kd.C (Kd.int .i64) w A1 l1.length l1) (hc1 : l1.length ≤ c1) (h : laws_eqIntS.f k l0 l1 = some r) :
  Calls Try.prog 24 #[.slice A0 l0.length c0, .slice A1 l1.length c1] w fun e w' => e = .returned (.bool r) ∧ Drawn0 w w' := by
 have HR0 := Aside0.mk hr0
 have HC0 := Aside0.mk hc0
 clear hr0 hc0
 have HR1 := Aside0.mk hr1
 have HC1 := Aside0.mk hc1
 clear hr1 hc1
 have H : (if (l0.length : Int) = (l1.length : Int) then (laws_eqIntS.l0 k l0 l1 0) else (some false)) = some r := h
 clear h
 by_cases c3 : (l0.length : Int) = (l1.length : Int)
 ·
  rw [if_pos c3] at H
  have c3b0 : ((l0.length : Int) == (l1.length : Int)) = true := beq_iff_eq.mpr c3
  have c3b1 : ((l0.length : Int) != (l1.length : Int)) = false := bne_eq_false_iff_eq.mpr c3
  have c3b2 : (l0.length == l1.length) = true := by first | simpa using c3 | (simp at c3 ⊢; omega)
  clear c3
  have H' := Aside0.mk H
  clear H
  go_enter Try.func24, Try.ntmps24
  go_wp2
  repeat (go_quiet (fail); try go_wp2)
  go_loopg [5] k (fun kq v5 w' => ∃ (x5_1 : Int), v5 = .int .i64 x5_1 ∧ Aside0 (laws_eqIntS.l0 kq l0 l1 x5_1 = some r) ∧ Aside0 (kq ≤ k) ∧ Drawn0 w w')
  case atStart => exact ⟨(0), (by first | rfl | (simp; done) | (simp [*]; done)), H', ⟨Nat.le_refl _⟩, by repeat (first | exact Drawn0.refl _ | apply Drawn0.step)⟩
  case round =>
   clear H'
   try clear c1
   try clear c2
   try clear p2
   try clear c3
   try clear c3b0
   try clear c3b1
   try clear c3b2
   obtain ⟨x5_1, rfl, HA, HK1, ⟨m1, rfl⟩⟩ := hrel
   cases gk with
   | zero => exact absurd HA.out (by simp [laws_eqIntS.l0])
   | succ k1 =>
    have H := HA.out
    clear HA
    simp only [laws_eqIntS.l0] at H
    by_cases c4 : x5_1 < (l0.length : Int)
    ·
     rw [if_pos c4] at H
     have c4b0 : decide (x5_1 < (l0.length : Int)) = true := decide_eq_true c4
     clear c4
     by_cases c5 : 0 ≤ x5_1
     ·
      rw [if_pos c5] at H
      have c5b0 : decide (0 ≤ x5_1) = true := decide_eq_true c5
      clear c5
      by_cases c6 : x5_1 < (l1.length : Int)
      ·
       rw [if_pos c6] at H
       have c6b0 : decide (x5_1 < (l1.length : Int)) = true := decide_eq_true c6
       clear c6
       by_cases c7 : (rd l0 x5_1) = (rd l1 x5_1)
       ·
        rw [if_pos c7] at H
        have c7b0 : ((rd l0 x5_1) == (rd l1 x5_1)) = true := beq_iff_eq.mpr c7
        have c7b1 : ((rd l0 x5_1) != (rd l1 x5_1)) = false := bne_eq_false_iff_eq.mpr c7
        clear c7
        have H' := Aside0.mk H
        clear H
        have p196 : 0 ≤ (x5_1 : Int) := of_decide_eq_true (by first | (with_reducible assumption) | assumption)
        have q196 : x5_1 < (l0.length : Int) := of_decide_eq_true (by first | (with_reducible assumption) | assumption)
        obtain ⟨ad196, e196, hx196_0⟩ := Kd.at_int HR0.out x5_1 p196 q196
        cases e196
        replace p196 := eq_true p196
        replace q196 := eq_true q196
        have p197 : 0 ≤ (x5_1 : Int) := of_decide_eq_true (by first | (with_reducible assumption) | assumption)
        have q197 : x5_1 < (l1.length : Int) := of_decide_eq_true (by first | (with_reducible assumption) | assumption)
        obtain ⟨ad197, e197, hx197_0⟩ := Kd.at_int HR1.out x5_1 p197 q197
        cases e197
        replace p197 := eq_true p197
        replace q197 := eq_true q197
        go_wp2
        repeat (go_quiet (fail); try go_wp2)
        go_roundg k1
        case measure => have := HK1.out; omega
        case rel => exact ⟨(wrap64 (x5_1 + 1)), (by first | rfl | (simp; done) | (simp [*]; done)), H', ⟨by have := HK1.out; omega⟩, by repeat (first | exact Drawn0.refl _ | apply Drawn0.step)⟩
       ·
        rw [if_neg c7] at H
        have c7b0 : ((rd l0 x5_1) == (rd l1 x5_1)) = false := beq_eq_false_iff_ne.mpr c7
        have c7b1 : ((rd l0 x5_1) != (rd l1 x5_1)) = true := bne_iff_ne.mpr c7
        obtain rfl := Option.some.inj H
        have p196 : 0 ≤ (x5_1 : Int) := of_decide_eq_true (by first | (with_reducible assumption) | assumption)
        have q196 : x5_1 < (l0.length : Int) := of_decide_eq_true (by first | (with_reducible assumption) | assumption)
        obtain ⟨ad196, e196, hx196_0⟩ := Kd.at_int HR0.out x5_1 p196 q196
        cases e196
        replace p196 := eq_true p196
        replace q196 := eq_true q196
        have p197 : 0 ≤ (x5_1 : Int) := of_decide_eq_true (by first | (with_reducible assumption) | assumption)
        have q197 : x5_1 < (l1.length : Int) := of_decide_eq_true (by first | (with_reducible assumption) | assumption)
        obtain ⟨ad197, e197, hx197_0⟩ := Kd.at_int HR1.out x5_1 p197 q197
        cases e197
        replace p197 := eq_true p197
        replace q197 := eq_true q197
        go_wp2
        repeat (go_quiet (fail); try go_wp2)
        go_ret
        exact ⟨rU, dU⟩
      ·
       rw [if_neg c6] at H
       exact absurd H (by simp)
     ·
      rw [if_neg c5] at H
      exact absurd H (by simp)
    ·
     rw [if_neg c4] at H
     have c4b0 : decide (x5_1 < (l0.length : Int)) = false := decide_eq_false c4
     clear c4
     obtain rfl := Option.some.inj H
     go_wp2
     repeat (go_quiet (fail); try go_wp2)
     go_ret
     exact ⟨rU, dU⟩
 ·
  rw [if_neg c3] at H
  have c3b0 : ((l0.length : Int) == (l1.length : Int)) = false := beq_eq_false_iff_ne.mpr c3
  have c3b1 : ((l0.length : Int) != (l1.length : Int)) = true := bne_iff_ne.mpr c3
  have c3b2 : (l0.length == l1.length) = false := by first | simpa using c3 | (simp at c3 ⊢; omega)
  obtain rfl := Option.some.inj H
  go_enter Try.func24, Try.ntmps24
  go_wp2
  repeat (go_quiet (fail); try go_wp2)
  go_ret
  exact ⟨rU, dU⟩

/-! ### laws_eqArray: function 10 -/
def laws_eqArray.f (k : Nat) (l0_0 : List Int) (l0_1 : List Int) (l1_0 : List Int) (l1_1 : List Int) : Option (Bool) := (laws_eqIntS.f k l0_0 l1_0).bind fun t200 => (if t200 = true then ((laws_eqIntS.f k l0_1 l1_1).bind fun t201 => (if t201 = true then (some true) else (some false))) else (some false))
set_option maxHeartbeats 8000000 in
set_option maxRecDepth 100000 in
theorem laws_eqArray.calls (k : Nat) (A0_0 : Option Addr) (c0_0 : Nat) (l0_0 : List Int) (A0_1 : Option Addr) (c0_1 : Nat) (l0_1 : List Int) (A1_0 : Option Addr) (c1_0 : Nat) (l1_0 : List Int) (A1_1 : Option Addr) (c1_1 : Nat) (l1_1 : List Int) (r : Bool) (w : World) (hr0_0 : Kd.C (Kd.int .i64) w A0_0 l0_0.length l0_0) (hc0_0 : l0_0.length ≤ c0_0) (hr0_1 : Kd.C (Kd.int .i64) w A0_1 l0_1.length l0_1) (hc0_1 : l0_1.length ≤ c0_1) (hr1_0 : Kd.C (Kd.int .i64) w A1_0 l1_0.length l1_0) (hc1_0 : l1_0.length ≤ c1_0) (hr1_1 : Kd.C (Kd.int .i64) w A1_1 l1_1.length l1_1) (hc1_1 : l1_1.length ≤ c1_1) (h : laws_eqArray.f k l0_0 l0_1 l1_0 l1_1 = some r) :
  Calls Try.prog 10 #[.agg #[.slice A0_0 l0_0.length c0_0, .slice A0_1 l0_1.length c0_1], .agg #[.slice A1_0 l1_0.length c1_0, .slice A1_1 l1_1.length c1_1]] w fun e w' => e = .returned (.bool r) ∧ Below w.heap.size w w' := by
 have hu28 := Try.underlying28
 have HR0_0 := Aside0.mk hr0_0
 have HC0_0 := Aside0.mk hc0_0
 clear hr0_0 hc0_0
 have HR0_1 := Aside0.mk hr0_1
 have HC0_1 := Aside0.mk hc0_1
 clear hr0_1 hc0_1
 have HR1_0 := Aside0.mk hr1_0
 have HC1_0 := Aside0.mk hc1_0
 clear hr1_0 hc1_0
 have HR1_1 := Aside0.mk hr1_1
 have HC1_1 := Aside0.mk hc1_1
 clear hr1_1 hc1_1
 have HB := Aside0.mk (Below.refl w.heap.size w)
 have H : ((laws_eqIntS.f k l0_0 l1_0).bind fun t200 => (if t200 = true then ((laws_eqIntS.f k l0_1 l1_1).bind fun t201 => (if t201 = true then (some true) else (some false))) else (some false))) = some r := h
 clear h
 replace H := Option.bind_eq_some_iff.mp H
 obtain ⟨t200, A30, H⟩ := H
 replace H : (if t200 = true then ((laws_eqIntS.f k l0_1 l1_1).bind fun t201 => (if t201 = true then (some true) else (some false))) else (some false)) = some r := H
 have A3 := Aside0.mk A30
 clear A30
 by_cases c4 : t200 = true
 ·
  subst c4
  have H1 : ((laws_eqIntS.f k l0_1 l1_1).bind fun t201 => (if t201 = true then (some true) else (some false))) = some r := by rw [if_pos rfl] at H; exact H
  clear H
  have H := H1
  clear H1
  replace H := Option.bind_eq_some_iff.mp H
  obtain ⟨t201, A50, H⟩ := H
  replace H : (if t201 = true then (some true) else (some false)) = some r := H
  have A5 := Aside0.mk A50
  clear A50
  by_cases c6 : t201 = true
  ·
   subst c6
   have H1 : (some true) = some r := by rw [if_pos rfl] at H; exact H
   clear H
   have H := H1
   clear H1
   obtain rfl := Option.some.inj H
   go_enter Try.func10, Try.ntmps10
   go_wp2_with (first | ((with_reducible refine gate_dst (N := 2) rfl ?_); refine box_event ?hg (N := 2) ?hd (cs := #[.slice A0_0 l0_0.length c0_0, .slice A0_1 l0_1.length c0_1]) (t := 28) ?hr ?_; (case hd => rfl); (case hg => rfl); (case hr => first | (go_simp; done) | (go_simp; rfl)); intro gb198 hg w7 hbox hb; have BK198 := Aside0.mk (hbox); have GW198 := Aside0.mk ((by rw [hg]; exact (below_size (bU HB.out)) : w.heap.size ≤ gb198)); have GE198 := Aside0.mk ((by rw [hg]; exact (below_size (bU HB.out)) : w.heap.size ≤ gb198)); replace HB := Aside0.mk (below_step (bU HB.out) hb); clear hb hbox hg) | ((with_reducible refine gate_dst (N := 3) rfl ?_); refine box_event ?hg (N := 3) ?hd (cs := #[.slice A1_0 l1_0.length c1_0, .slice A1_1 l1_1.length c1_1]) (t := 28) ?hr ?_; (case hd => rfl); (case hg => rfl); (case hr => first | (go_simp; done) | (go_simp; rfl)); intro gb199 hg w8 hbox hb; have BK199 := Aside0.mk (hbox); have GW199 := Aside0.mk ((by rw [hg]; exact (below_size (bS1 HB.out GE198.out)) : w.heap.size ≤ gb199)); have GE199 := Aside0.mk ((by rw [hg]; exact (below_size (bS1 HB.out GE198.out)) : w.heap.size ≤ gb199)); replace HB := Aside0.mk (below_step (bS1 HB.out GE198.out) hb); have NB198_199 := Aside0.mk (kN BK198.out hg); have NB199_198 := Aside0.mk (kM BK198.out hg); replace BK198 := Aside0.mk (kB BK198.out hb); clear hb hbox hg; have hnb9 := NB198_199.out; have hnc9 := NB199_198.out; have hcz10_0 : w8.cell? ⟨gb198, 0, none⟩ = some (.slice A0_0 l0_0.length c0_0) := (blk_cell BK198.out 0).trans rfl; have hcz10_1 : w8.cell? ⟨gb198, 1, none⟩ = some (.slice A0_1 l0_1.length c0_1) := (blk_cell BK198.out 1).trans rfl; have hfz10_0 := blk_frozen BK198.out 0; have hfz10_1 := blk_frozen BK198.out 1; have hcz11_0 : w8.cell? ⟨gb199, 0, none⟩ = some (.slice A1_0 l1_0.length c1_0) := (blk_cell BK199.out 0).trans rfl; have hcz11_1 : w8.cell? ⟨gb199, 1, none⟩ = some (.slice A1_1 l1_1.length c1_1) := (blk_cell BK199.out 1).trans rfl; have hfz11_0 := blk_frozen BK199.out 0; have hfz11_1 := blk_frozen BK199.out 1) | ((with_reducible refine gate_callee (f := 24) rfl ?_); refine goesL_ (some 9) rfl rfl Try.func24 (by kernel_rfl) rfl #[.slice A0_0 l0_0.length c0_0, .slice A1_0 l1_0.length c1_0] rfl lU ?_; (with_reducible refine (laws_eqIntS.calls k _ _ l0_0 _ _ l1_0 true _ ?side1 ?side2 ?side3 ?side4 A3.out).mono ?_); (case side1 => exact cU (Kd.C_below HR0_0.out HB.out)); (case side2 => exact HC0_0.out); (case side3 => exact cU (Kd.C_below HR1_0.out HB.out)); (case side4 => exact HC1_0.out); rintro e w' ⟨rfl, ⟨nd, rfl⟩⟩; refine ⟨_, rfl, ?_⟩) | ((with_reducible refine gate_callee (f := 24) rfl ?_); refine goesL_ (some 15) rfl rfl Try.func24 (by kernel_rfl) rfl #[.slice A0_1 l0_1.length c0_1, .slice A1_1 l1_1.length c1_1] rfl lU ?_; (with_reducible refine (laws_eqIntS.calls k _ _ l0_1 _ _ l1_1 true _ ?side1 ?side2 ?side3 ?side4 A5.out).mono ?_); (case side1 => repeat (first | exact (Kd.C_below HR0_1.out (bS2 HB.out GE198.out GE199.out)) | (with_reducible refine Kd.C_alloc ?_ _) | (with_reducible refine Kd.C_drewN ?_ _) | (with_reducible refine Kd.C_drew ?_))); (case side2 => exact HC0_1.out); (case side3 => repeat (first | exact (Kd.C_below HR1_1.out (bS2 HB.out GE198.out GE199.out)) | (with_reducible refine Kd.C_alloc ?_ _) | (with_reducible refine Kd.C_drewN ?_ _) | (with_reducible refine Kd.C_drew ?_))); (case side4 => exact HC1_1.out); rintro e w' ⟨rfl, ⟨nd, rfl⟩⟩; refine ⟨_, rfl, ?_⟩))
   go_ret
   exact ⟨by first | rfl | (simp [errW_none, errW_some] <;> rfl) | (simp [*, errW_none, errW_some] <;> rfl), by exact bS2 HB.out GE198.out GE199.out⟩
  ·
   replace c6 := Bool.eq_false_iff.mpr c6
   subst c6
   have H1 : (some false) = some r := by rw [if_neg (show ¬ (false = true) by decide)] at H; exact H
   clear H
   have H := H1
   clear H1
   obtain rfl := Option.some.inj H
   go_enter Try.func10, Try.ntmps10
   go_wp2_with (first | ((with_reducible refine gate_dst (N := 2) rfl ?_); refine box_event ?hg (N := 2) ?hd (cs := #[.slice A0_0 l0_0.length c0_0, .slice A0_1 l0_1.length c0_1]) (t := 28) ?hr ?_; (case hd => rfl); (case hg => rfl); (case hr => first | (go_simp; done) | (go_simp; rfl)); intro gb198 hg w12 hbox hb; have BK198 := Aside0.mk (hbox); have GW198 := Aside0.mk ((by rw [hg]; exact (below_size (bU HB.out)) : w.heap.size ≤ gb198)); have GE198 := Aside0.mk ((by rw [hg]; exact (below_size (bU HB.out)) : w.heap.size ≤ gb198)); replace HB := Aside0.mk (below_step (bU HB.out) hb); clear hb hbox hg) | ((with_reducible refine gate_dst (N := 3) rfl ?_); refine box_event ?hg (N := 3) ?hd (cs := #[.slice A1_0 l1_0.length c1_0, .slice A1_1 l1_1.length c1_1]) (t := 28) ?hr ?_; (case hd => rfl); (case hg => rfl); (case hr => first | (go_simp; done) | (go_simp; rfl)); intro gb199 hg w13 hbox hb; have BK199 := Aside0.mk (hbox); have GW199 := Aside0.mk ((by rw [hg]; exact (below_size (bS1 HB.out GE198.out)) : w.heap.size ≤ gb199)); have GE199 := Aside0.mk ((by rw [hg]; exact (below_size (bS1 HB.out GE198.out)) : w.heap.size ≤ gb199)); replace HB := Aside0.mk (below_step (bS1 HB.out GE198.out) hb); have NB198_199 := Aside0.mk (kN BK198.out hg); have NB199_198 := Aside0.mk (kM BK198.out hg); replace BK198 := Aside0.mk (kB BK198.out hb); clear hb hbox hg; have hnb14 := NB198_199.out; have hnc14 := NB199_198.out; have hcz15_0 : w13.cell? ⟨gb198, 0, none⟩ = some (.slice A0_0 l0_0.length c0_0) := (blk_cell BK198.out 0).trans rfl; have hcz15_1 : w13.cell? ⟨gb198, 1, none⟩ = some (.slice A0_1 l0_1.length c0_1) := (blk_cell BK198.out 1).trans rfl; have hfz15_0 := blk_frozen BK198.out 0; have hfz15_1 := blk_frozen BK198.out 1; have hcz16_0 : w13.cell? ⟨gb199, 0, none⟩ = some (.slice A1_0 l1_0.length c1_0) := (blk_cell BK199.out 0).trans rfl; have hcz16_1 : w13.cell? ⟨gb199, 1, none⟩ = some (.slice A1_1 l1_1.length c1_1) := (blk_cell BK199.out 1).trans rfl; have hfz16_0 := blk_frozen BK199.out 0; have hfz16_1 := blk_frozen BK199.out 1) | ((with_reducible refine gate_callee (f := 24) rfl ?_); refine goesL_ (some 9) rfl rfl Try.func24 (by kernel_rfl) rfl #[.slice A0_0 l0_0.length c0_0, .slice A1_0 l1_0.length c1_0] rfl lU ?_; (with_reducible refine (laws_eqIntS.calls k _ _ l0_0 _ _ l1_0 true _ ?side1 ?side2 ?side3 ?side4 A3.out).mono ?_); (case side1 => exact cU (Kd.C_below HR0_0.out HB.out)); (case side2 => exact HC0_0.out); (case side3 => exact cU (Kd.C_below HR1_0.out HB.out)); (case side4 => exact HC1_0.out); rintro e w' ⟨rfl, ⟨nd, rfl⟩⟩; refine ⟨_, rfl, ?_⟩) | ((with_reducible refine gate_callee (f := 24) rfl ?_); refine goesL_ (some 15) rfl rfl Try.func24 (by kernel_rfl) rfl #[.slice A0_1 l0_1.length c0_1, .slice A1_1 l1_1.length c1_1] rfl lU ?_; (with_reducible refine (laws_eqIntS.calls k _ _ l0_1 _ _ l1_1 false _ ?side1 ?side2 ?side3 ?side4 A5.out).mono ?_); (case side1 => repeat (first | exact (Kd.C_below HR0_1.out (bS2 HB.out GE198.out GE199.out)) | (with_reducible refine Kd.C_alloc ?_ _) | (with_reducible refine Kd.C_drewN ?_ _) | (with_reducible refine Kd.C_drew ?_))); (case side2 => exact HC0_1.out); (case side3 => repeat (first | exact (Kd.C_below HR1_1.out (bS2 HB.out GE198.out GE199.out)) | (with_reducible refine Kd.C_alloc ?_ _) | (with_reducible refine Kd.C_drewN ?_ _) | (with_reducible refine Kd.C_drew ?_))); (case side4 => exact HC1_1.out); rintro e w' ⟨rfl, ⟨nd, rfl⟩⟩; refine ⟨_, rfl, ?_⟩))
   go_ret
   exact ⟨by first | rfl | (simp [errW_none, errW_some] <;> rfl) | (simp [*, errW_none, errW_some] <;> rfl), by exact bS2 HB.out GE198.out GE199.out⟩
 ·
  replace c4 := Bool.eq_false_iff.mpr c4
  subst c4
  have H1 : (some false) = some r := by rw [if_neg (show ¬ (false = true) by decide)] at H; exact H
  clear H
  have H := H1
  clear H1
  obtain rfl := Option.some.inj H
  go_enter Try.func10, Try.ntmps10
  go_wp2_with (first | ((with_reducible refine gate_dst (N := 2) rfl ?_); refine box_event ?hg (N := 2) ?hd (cs := #[.slice A0_0 l0_0.length c0_0, .slice A0_1 l0_1.length c0_1]) (t := 28) ?hr ?_; (case hd => rfl); (case hg => rfl); (case hr => first | (go_simp; done) | (go_simp; rfl)); intro gb198 hg w17 hbox hb; have BK198 := Aside0.mk (hbox); have GW198 := Aside0.mk ((by rw [hg]; exact (below_size (bU HB.out)) : w.heap.size ≤ gb198)); have GE198 := Aside0.mk ((by rw [hg]; exact (below_size (bU HB.out)) : w.heap.size ≤ gb198)); replace HB := Aside0.mk (below_step (bU HB.out) hb); clear hb hbox hg) | ((with_reducible refine gate_dst (N := 3) rfl ?_); refine box_event ?hg (N := 3) ?hd (cs := #[.slice A1_0 l1_0.length c1_0, .slice A1_1 l1_1.length c1_1]) (t := 28) ?hr ?_; (case hd => rfl); (case hg => rfl); (case hr => first | (go_simp; done) | (go_simp; rfl)); intro gb199 hg w18 hbox hb; have BK199 := Aside0.mk (hbox); have GW199 := Aside0.mk ((by rw [hg]; exact (below_size (bS1 HB.out GE198.out)) : w.heap.size ≤ gb199)); have GE199 := Aside0.mk ((by rw [hg]; exact (below_size (bS1 HB.out GE198.out)) : w.heap.size ≤ gb199)); replace HB := Aside0.mk (below_step (bS1 HB.out GE198.out) hb); have NB198_199 := Aside0.mk (kN BK198.out hg); have NB199_198 := Aside0.mk (kM BK198.out hg); replace BK198 := Aside0.mk (kB BK198.out hb); clear hb hbox hg; have hnb19 := NB198_199.out; have hnc19 := NB199_198.out; have hcz20_0 : w18.cell? ⟨gb198, 0, none⟩ = some (.slice A0_0 l0_0.length c0_0) := (blk_cell BK198.out 0).trans rfl; have hcz20_1 : w18.cell? ⟨gb198, 1, none⟩ = some (.slice A0_1 l0_1.length c0_1) := (blk_cell BK198.out 1).trans rfl; have hfz20_0 := blk_frozen BK198.out 0; have hfz20_1 := blk_frozen BK198.out 1; have hcz21_0 : w18.cell? ⟨gb199, 0, none⟩ = some (.slice A1_0 l1_0.length c1_0) := (blk_cell BK199.out 0).trans rfl; have hcz21_1 : w18.cell? ⟨gb199, 1, none⟩ = some (.slice A1_1 l1_1.length c1_1) := (blk_cell BK199.out 1).trans rfl; have hfz21_0 := blk_frozen BK199.out 0; have hfz21_1 := blk_frozen BK199.out 1) | ((with_reducible refine gate_callee (f := 24) rfl ?_); refine goesL_ (some 9) rfl rfl Try.func24 (by kernel_rfl) rfl #[.slice A0_0 l0_0.length c0_0, .slice A1_0 l1_0.length c1_0] rfl lU ?_; (with_reducible refine (laws_eqIntS.calls k _ _ l0_0 _ _ l1_0 false _ ?side1 ?side2 ?side3 ?side4 A3.out).mono ?_); (case side1 => exact cU (Kd.C_below HR0_0.out HB.out)); (case side2 => exact HC0_0.out); (case side3 => exact cU (Kd.C_below HR1_0.out HB.out)); (case side4 => exact HC1_0.out); rintro e w' ⟨rfl, ⟨nd, rfl⟩⟩; refine ⟨_, rfl, ?_⟩))
  go_ret
  exact ⟨by first | rfl | (simp [errW_none, errW_some] <;> rfl) | (simp [*, errW_none, errW_some] <;> rfl), by exact bS2 HB.out GE198.out GE199.out⟩

end Go.Proofs.Ytnpcjppcoejgmaa.PFnExactRows
