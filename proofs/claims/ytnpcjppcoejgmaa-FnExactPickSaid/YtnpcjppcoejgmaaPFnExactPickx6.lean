/- The walk of what a law reaches, for the law's row: written by a program of this session; it has no condition of its own. -/
import Derived.Test.YtnpcjppcoejgmaaPFnExactPickx0
import Derived.Test.YtnpcjppcoejgmaaQ
import Derived.Test.YtnpcjppcoejgmaaPFnExactPickx5
namespace Go.Proofs.Ytnpcjppcoejgmaa.PFnExactPick
open Go.RowKit Go.Proofs.YtnpcjppcoejgmaaW.PrintWords Go.Proofs.YtnpcjppcoejgmaaW.PrintLast Go.Proofs.YtnpcjppcoejgmaaW.PrintMore Go.Proofs.YtnpcjppcoejgmaaQ
attribute [local go_sem] max2_int min2_int max_two min_two max_three min_three max_four min_four   -- for this text's walks alone
set_option linter.unusedVariables false
set_option linter.unusedSimpArgs false

/-! ### impl_Rows: function 8 -/
mutual
def impl_Rows.j0 : Nat → Bool → List Int → List Int → Option ((List (S28)))
 | 0, _, _, _ => none
 | k + 1, x14, x212000, x212001 => if x14 = true then (some ([] : List (S28))) else (if 1 ≤ (x212000.length : Int) then ((impl_SizeOf.f k (x212000.drop 1)).bind fun t214 => (impl_Rows.l0 k t214 ([] : List (S28)) 0 x212000 x212001)) else (none))
def impl_Rows.l0 : Nat → Int → List (S28) → Int → List Int → List Int → Option ((List (S28)))
 | 0, _, _, _, _, _ => none
 | k + 1, x3, x4, x5, x212000, x212001 => if 0 < (x212000.length : Int) then (if x5 < (rd x212000 0) then (if 1 ≤ (x212000.length : Int) then (if 0 ≤ (wrap64 (x5 * x3)) then (if (wrap64 (x5 * x3)) ≤ (wrap64 ((wrap64 (x5 + 1)) * x3)) then (if (wrap64 ((wrap64 (x5 + 1)) * x3)) ≤ (x212001.length : Int) then ((impl_copyArray.f (x212000.drop 1) ((x212001.take ((wrap64 ((wrap64 (x5 + 1)) * x3)) : Int).toNat).drop ((wrap64 (x5 * x3)) : Int).toNat)).bind fun bt218 => (if x4.length < 2932031007402 then (impl_Rows.l0 k x3 (x4 ++ [(⟨bt218.1, bt218.2⟩ : S28)]) (wrap64 (x5 + 1)) x212000 x212001) else (none))) else (none)) else (none)) else (none)) else (none)) else (some x4)) else (none)
end
def impl_Rows.f (k : Nat) (l0_0 : List Int) (l0_1 : List Int) : Option ((List (S28))) := (impl_ArrayOk.f k l0_0 l0_1).bind fun t212 => (if t212 = true then (impl_Rows.j0 k ((l0_0.length : Int) == 0) l0_0 l0_1) else (impl_Rows.j0 k true l0_0 l0_1))
def impl_Rows.T8 : Bool × List (List Nat × List Nat) := (true, [([], []), ([], []), ([1], [1]), ([2], [2]), ([], []), ([4], [4]), ([], []), ([], []), ([6, 7], [6, 7]), ([], []), ([9], [9]), ([], []), ([10, 11], [10, 11]), ([5, 8, 12], [5, 8, 12]), ([3, 13], [3, 13]), ([14], [14]), ([15], [15]), ([0, 16, 15], [0, 16]), ([17, 17, 0, 1, 2, 3, 4, 5, 6, 7, 8, 9, 10, 11, 12, 13, 14, 15, 16, 17], [0, 17])])
def impl_Rows.B8 : List Nat := [0, 0, 2, 6, 0, 16, 0, 0, 192, 0, 512, 0, 3584, 8176, 16382, 32766, 65534, 131071, 262143]
theorem impl_Rows.tab8 : rtab .any (opsOf Try.f8 8) = impl_Rows.T8 := by kernel_rfl
theorem impl_Rows.bits8 : waitsOk impl_Rows.T8.2 impl_Rows.B8 = true := by kernel_rfl
set_option maxHeartbeats 8000000 in
set_option maxRecDepth 100000 in
theorem impl_Rows.calls (k : Nat) (A0_0 : Option Addr) (c0_0 : Nat) (l0_0 : List Int) (A0_1 : Option Addr) (c0_1 : Nat) (l0_1 : List Int) (r : List (S28)) (w : World) (hr0_0 : Kd.C (Kd.int .i64) w A0_0 l0_0.length l0_0) (hc0_0 : l0_0.length ≤ c0_0) (hr0_1 : Kd.C (Kd.int .i64) w A0_1 l0_1.length l0_1) (hc0_1 : l0_1.length ≤ c0_1) (h : impl_Rows.f k l0_0 l0_1 = some r) :
  Calls Try.prog 8 #[.agg #[.slice A0_0 l0_0.length c0_0, .slice A0_1 l0_1.length c0_1]] w fun e w' => ∃ v0_ : Value, e = .returned (v0_) ∧ Kd.S k28 28 w' w.heap.size (fun _ => True) v0_ r ∧ Below w.heap.size w w' := by
 have hu28 := Try.underlying28
 have HR0_0 := Aside0.mk hr0_0
 have HC0_0 := Aside0.mk hc0_0
 clear hr0_0 hc0_0
 have HR0_1 := Aside0.mk hr0_1
 have HC0_1 := Aside0.mk hc0_1
 clear hr0_1 hc0_1
 have HB := Aside0.mk (Below.refl w.heap.size w)
 have H : ((impl_ArrayOk.f k l0_0 l0_1).bind fun t212 => (if t212 = true then (impl_Rows.j0 k ((l0_0.length : Int) == 0) l0_0 l0_1) else (impl_Rows.j0 k true l0_0 l0_1))) = some r := h
 clear h
 have HC2 := Aside0.mk H
 clear H
 go_enter Try.func8, Try.ntmps8
 go_upto_region 1 with (first | ((with_reducible refine gate_dst (N := 1) rfl ?_); (try (refine gate_guard (by rfl) ?_; dsimp only)); refine box_event ?hg (N := 1) ?hd (cs := #[.slice A0_0 l0_0.length c0_0, .slice A0_1 l0_1.length c0_1]) (t := 28) ?hr ?_; (case hd => rfl); (case hg => rfl); (case hr => first | (go_simp; done) | (go_simp; rfl)); intro gb211 hg w3 hbox hb; have BK211 := Aside0.mk (hbox); have GW211 := Aside0.mk ((by rw [hg]; exact (below_size (bU HB.out)) : w.heap.size ≤ gb211)); have GE211 := Aside0.mk ((by rw [hg]; exact (below_size (bU HB.out)) : w.heap.size ≤ gb211)); replace HB := Aside0.mk (below_step (bU HB.out) hb); clear hb hbox hg))
 (try simp only [Act.put, List.setIfInBounds_toArray, List.set_cons_zero, List.set_cons_succ])
 go_cut [14] (fun v14 wc => ∃ (kq : Nat) (x14_1 : Bool), v14 = .bool x14_1 ∧ Aside0 (impl_Rows.j0 kq x14_1 l0_0 l0_1 = some r) ∧ Aside0 (kq ≤ k) ∧ Aside0 (wc.heap[gb211]? = some (.cells #[(.slice A0_0 l0_0.length c0_0), (.slice A0_1 l0_1.length c0_1)] 28 (0, 0))) ∧ Aside0 (Below w.heap.size w wc))
 case first =>
  have H := HC2.out
  clear HC2
  replace H := Option.bind_eq_some_iff.mp H
  obtain ⟨t212, A40, H⟩ := H
  replace H : (if t212 = true then (impl_Rows.j0 k ((l0_0.length : Int) == 0) l0_0 l0_1) else (impl_Rows.j0 k true l0_0 l0_1)) = some r := H
  have A4 := Aside0.mk A40
  clear A40
  by_cases c5 : t212 = true
  ·
   subst c5
   have H1 : (impl_Rows.j0 k ((l0_0.length : Int) == 0) l0_0 l0_1) = some r := by rw [if_pos rfl] at H; exact H
   clear H
   have H := H1
   clear H1
   have H' := Aside0.mk H
   clear H
   have hcz6_0 : w3.cell? ⟨gb211, 0, none⟩ = some (.slice A0_0 l0_0.length c0_0) := (blk_cell BK211.out 0).trans rfl
   have hcz6_1 : w3.cell? ⟨gb211, 1, none⟩ = some (.slice A0_1 l0_1.length c0_1) := (blk_cell BK211.out 1).trans rfl
   have hfz6_0 := blk_frozen BK211.out 0
   have hfz6_1 := blk_frozen BK211.out 1
   go_wp2_with (first | ((with_reducible refine gate_callee (f := 21) rfl ?_); refine goesL_ (some 7) rfl rfl Try.func21 (by kernel_rfl) rfl #[.agg #[.slice A0_0 l0_0.length c0_0, .slice A0_1 l0_1.length c0_1]] rfl lU ?_; (with_reducible refine (impl_ArrayOk.calls k _ _ l0_0 _ _ l0_1 true _ ?side1 ?side2 ?side3 ?side4 A4.out).mono ?_); (case side1 => exact cU (Kd.C_below HR0_0.out HB.out)); (case side2 => exact HC0_0.out); (case side3 => exact cU (Kd.C_below HR0_1.out HB.out)); (case side4 => exact HC0_1.out); rintro e w7 ⟨rfl, hb⟩; refine ⟨_, rfl, ?_⟩; replace BK211 := Aside0.mk (kB BK211.out hb); replace HB := Aside0.mk (below_step (bS1 HB.out GE211.out) hb); (try clear hb); (try clear hb2); (try clear hk); (try clear hi); have hcz8_0 : w7.cell? ⟨gb211, 0, none⟩ = some (.slice A0_0 l0_0.length c0_0) := (blk_cell BK211.out 0).trans rfl; have hcz8_1 : w7.cell? ⟨gb211, 1, none⟩ = some (.slice A0_1 l0_1.length c0_1) := (blk_cell BK211.out 1).trans rfl; have hfz8_0 := blk_frozen BK211.out 0; have hfz8_1 := blk_frozen BK211.out 1))
   go_meet
   case rel => exact ⟨_, (((l0_0.length : Int) == 0)), (by first | rfl | (simp; done) | (simp [*]; done)), H', ⟨by first | omega | exact Nat.le_refl _⟩, ⟨by refine kU ?_; exact BK211.out⟩, ⟨by exact bS1 HB.out GE211.out⟩⟩
  ·
   replace c5 := Bool.eq_false_iff.mpr c5
   subst c5
   have H1 : (impl_Rows.j0 k true l0_0 l0_1) = some r := by rw [if_neg (show ¬ (false = true) by decide)] at H; exact H
   clear H
   have H := H1
   clear H1
   have H' := Aside0.mk H
   clear H
   have hcz9_0 : w3.cell? ⟨gb211, 0, none⟩ = some (.slice A0_0 l0_0.length c0_0) := (blk_cell BK211.out 0).trans rfl
   have hcz9_1 : w3.cell? ⟨gb211, 1, none⟩ = some (.slice A0_1 l0_1.length c0_1) := (blk_cell BK211.out 1).trans rfl
   have hfz9_0 := blk_frozen BK211.out 0
   have hfz9_1 := blk_frozen BK211.out 1
   go_wp2_with (first | ((with_reducible refine gate_callee (f := 21) rfl ?_); refine goesL_ (some 7) rfl rfl Try.func21 (by kernel_rfl) rfl #[.agg #[.slice A0_0 l0_0.length c0_0, .slice A0_1 l0_1.length c0_1]] rfl lU ?_; (with_reducible refine (impl_ArrayOk.calls k _ _ l0_0 _ _ l0_1 false _ ?side1 ?side2 ?side3 ?side4 A4.out).mono ?_); (case side1 => exact cU (Kd.C_below HR0_0.out HB.out)); (case side2 => exact HC0_0.out); (case side3 => exact cU (Kd.C_below HR0_1.out HB.out)); (case side4 => exact HC0_1.out); rintro e w10 ⟨rfl, hb⟩; refine ⟨_, rfl, ?_⟩; replace BK211 := Aside0.mk (kB BK211.out hb); replace HB := Aside0.mk (below_step (bS1 HB.out GE211.out) hb); (try clear hb); (try clear hb2); (try clear hk); (try clear hi)))
   go_meet
   case rel => exact ⟨_, (true), (by first | rfl | (simp; done) | (simp [*]; done)), H', ⟨by first | omega | exact Nat.le_refl _⟩, ⟨by refine kU ?_; exact BK211.out⟩, ⟨by exact bS1 HB.out GE211.out⟩⟩
 case rest =>
  clear HC2
  try clear c2
  try clear p2
  try clear c5
  try clear c8
  try clear hcz6_0
  try clear hcz6_1
  try clear hcz8_0
  try clear hcz8_1
  try clear hcz9_0
  try clear hcz9_1
  try clear hfz6_0
  try clear hfz6_1
  try clear hfz8_0
  try clear hfz8_1
  try clear hfz9_0
  try clear hfz9_1
  obtain ⟨kq, x14_1, rfl, HA, HJ1, BK211, HB⟩ := hcut
  cases kq with
  | zero => exact absurd HA.out (by simp [impl_Rows.j0])
  | succ kj1 =>
   have H := HA.out
   clear HA
   simp only [impl_Rows.j0] at H
   by_cases c11 : x14_1 = true
   ·
    subst c11
    have H1 : (some ([] : List (S28))) = some r := by rw [if_pos rfl] at H; exact H
    clear H
    have H := H1
    clear H1
    obtain rfl := Option.some.inj H
    go_wp2
    go_ret
    exact ⟨_, by first | rfl | (simp [errW_none, errW_some] <;> rfl) | (simp [*, errW_none, errW_some] <;> rfl), by first | exact Kd.S_nil _ _ _ _ _ | exact Kd.N_nil _ _ _ _ _ | exact Kd.V_nil _ _ _ _ _ | exact Kd.Q_nil _ _ _ _ _ | exact Kd.R_nil _ _ _ _ _, by exact bS1 HB.out GE211.out⟩
   ·
    replace c11 := Bool.eq_false_iff.mpr c11
    subst c11
    have H1 : (if 1 ≤ (l0_0.length : Int) then ((impl_SizeOf.f kj1 (l0_0.drop 1)).bind fun t214 => (impl_Rows.l0 kj1 t214 ([] : List (S28)) 0 l0_0 l0_1)) else (none)) = some r := by rw [if_neg (show ¬ (false = true) by decide)] at H; exact H
    clear H
    have H := H1
    clear H1
    by_cases c12 : 1 ≤ (l0_0.length : Int)
    ·
     rw [if_pos c12] at H
     have c12b0 := eq_true c12
     have c12b1 : decide (1 ≤ (l0_0.length : Int)) = true := decide_eq_true c12
     clear c12
     replace H := Option.bind_eq_some_iff.mp H
     obtain ⟨t214, A130, H⟩ := H
     replace H : (impl_Rows.l0 kj1 t214 ([] : List (S28)) 0 l0_0 l0_1) = some r := H
     have A13 := Aside0.mk A130
     clear A130
     have H' := Aside0.mk H
     clear H
     have hcz14_0 : wc.cell? ⟨gb211, 0, none⟩ = some (.slice A0_0 l0_0.length c0_0) := (blk_cell BK211.out 0).trans rfl
     have hcz14_1 : wc.cell? ⟨gb211, 1, none⟩ = some (.slice A0_1 l0_1.length c0_1) := (blk_cell BK211.out 1).trans rfl
     have hfz14_0 := blk_frozen BK211.out 0
     have hfz14_1 := blk_frozen BK211.out 1
     obtain ⟨i015, hi015, _, hsz15, _⟩ := info_parts info3
     obtain ⟨A15, hcut15, hA15, hC15⟩ := print_drop_of (P := Try.prog) (Value.int .i64) 0 22 3 .i64 Try.underlying22 hi015 hsz15 A0_0 c0_0 l0_0 1 (by omega) (of_decide_eq_true (by first | (with_reducible assumption) | assumption)) HC0_0.out
     have HR213 := Aside0.mk (Kd.C_of_reads (h1 := fun _ => rfl) (hA15 _ (Kd.reads_of_C HR0_0.out)))
     have HC213 := Aside0.mk hC15
     clear hA15 hC15 hi015 hsz15
     go_wp2_with (first | ((with_reducible refine gate_callee (f := 22) rfl ?_); refine goesL_ (some 18) rfl rfl Try.func22 (by kernel_rfl) rfl #[.slice A15 (l0_0.drop 1).length (c0_0 - 1)] rfl (by (try simp only [List.map_toArray, List.map_cons, List.map_nil]); first | done | (rw [show (l0_0.drop 1).length = (l0_0.length - 1) from List.length_drop] <;> rfl) | rfl | (simp only [List.length_drop, List.length_take]; rfl)) ?_; (with_reducible refine (impl_SizeOf.calls kj1 _ _ (l0_0.drop 1) t214 _ ?side1 ?side2 A13.out).mono ?_); (case side1 => exact cU (Kd.C_below HR213.out HB.out)); (case side2 => exact HC213.out); rintro e w' ⟨rfl, ⟨nd, rfl⟩⟩; refine ⟨_, rfl, ?_⟩))
     go_loopg [4, 5] kj1 (fun kq v4 v5 w' => ∃ (x4_2 : List (S28)) (x5_2 : Int), v5 = .int .i64 x5_2 ∧ Aside0 (impl_Rows.l0 kq t214 x4_2 x5_2 l0_0 l0_1 = some r) ∧ Aside0 (kq ≤ kj1) ∧ Aside0 (Kd.S k28 28 w' w.heap.size (fun k_ => k_ ≠ gb211) v4 x4_2) ∧ Aside0 (w'.heap[gb211]? = some (.cells #[(.slice A0_0 l0_0.length c0_0), (.slice A0_1 l0_1.length c0_1)] 28 (0, 0))) ∧ Aside0 (Below w.heap.size w w'))
     case atStart => exact ⟨(([] : List (S28))), (0), (by first | rfl | (simp; done) | (simp [*]; done)), H', ⟨Nat.le_refl _⟩, ⟨by first | exact Kd.S_nil _ _ _ _ _ | exact Kd.N_nil _ _ _ _ _ | exact Kd.V_nil _ _ _ _ _ | exact Kd.Q_nil _ _ _ _ _ | exact Kd.R_nil _ _ _ _ _⟩, ⟨by refine kU ?_; exact BK211.out⟩, ⟨by exact bS1 HB.out GE211.out⟩⟩
     case round =>
      clear H'
      try clear c1
      try clear c2
      try clear p2
      try clear c5
      try clear c8
      try clear c11
      try clear c12
      try clear c12b0
      try clear c12b1
      try clear hcz14_0
      try clear hcz14_1
      try clear hcz6_0
      try clear hcz6_1
      try clear hcz8_0
      try clear hcz8_1
      try clear hcz9_0
      try clear hcz9_1
      try clear hfz14_0
      try clear hfz14_1
      try clear hfz6_0
      try clear hfz6_1
      try clear hfz8_0
      try clear hfz8_1
      try clear hfz9_0
      try clear hfz9_1
      try clear p2
      obtain ⟨x4_2, x5_2, rfl, HA, HK2, HO_4, BK211, HB⟩ := hrel
      cases gk with
      | zero => exact absurd HA.out (by simp [impl_Rows.l0])
      | succ k2 =>
       have H := HA.out
       clear HA
       simp only [impl_Rows.l0] at H
       by_cases c16 : 0 < (l0_0.length : Int)
       ·
        rw [if_pos c16] at H
        have c16b0 : decide (0 < (l0_0.length : Int)) = true := decide_eq_true c16
        have c16b1 : decide (0 < l0_0.length) = true := decide_eq_true (by omega)
        clear c16
        by_cases c17 : x5_2 < (rd l0_0 0)
        ·
         rw [if_pos c17] at H
         have c17b0 : decide (x5_2 < (rd l0_0 0)) = true := decide_eq_true c17
         clear c17
         by_cases c18 : 1 ≤ (l0_0.length : Int)
         ·
          rw [if_pos c18] at H
          have c18b0 := eq_true c18
          have c18b1 : decide (1 ≤ (l0_0.length : Int)) = true := decide_eq_true c18
          clear c18
          obtain ⟨ji19, hji19⟩ : ∃ j_ : Int, (wrap64 (x5_2 * t214)) = j_ := ⟨_, rfl⟩
          replace H : (if 0 ≤ (ji19) then (if (ji19) ≤ (wrap64 ((wrap64 (x5_2 + 1)) * t214)) then (if (wrap64 ((wrap64 (x5_2 + 1)) * t214)) ≤ (l0_1.length : Int) then ((impl_copyArray.f (l0_0.drop 1) ((l0_1.take ((wrap64 ((wrap64 (x5_2 + 1)) * t214)) : Int).toNat).drop ((ji19) : Int).toNat)).bind fun bt218 => (if x4_2.length < 2932031007402 then (impl_Rows.l0 k2 t214 (x4_2 ++ [(⟨bt218.1, bt218.2⟩ : S28)]) (wrap64 (x5_2 + 1)) l0_0 l0_1) else (none))) else (none)) else (none)) else (none)) = some r := by first | (rw [hji19] at H; exact H) | (simp only [hji19] at H ⊢; exact H)
          have hji19w : (IntKind.i64.wrap (x5_2 * t214)) = ji19 := (i64_w _).trans hji19
          by_cases c20 : 0 ≤ (ji19)
          ·
           rw [if_pos c20] at H
           have c20b0 := eq_true c20
           have c20b1 : decide (0 ≤ (ji19)) = true := decide_eq_true c20
           clear c20
           by_cases c21 : (ji19) ≤ (wrap64 ((wrap64 (x5_2 + 1)) * t214))
           ·
            rw [if_pos c21] at H
            have c21b0 := eq_true c21
            have c21b1 : decide ((ji19) ≤ (wrap64 ((wrap64 (x5_2 + 1)) * t214))) = true := decide_eq_true c21
            by_cases c22 : (wrap64 ((wrap64 (x5_2 + 1)) * t214)) ≤ (l0_1.length : Int)
            ·
             rw [if_pos c22] at H
             have c22b0 := eq_true c22
             have c22b1 : decide ((wrap64 ((wrap64 (x5_2 + 1)) * t214)) ≤ (l0_1.length : Int)) = true := decide_eq_true c22
             replace H := Option.bind_eq_some_iff.mp H
             obtain ⟨⟨t218, t221⟩, A230, H⟩ := H
             replace H : (if x4_2.length < 2932031007402 then (impl_Rows.l0 k2 t214 (x4_2 ++ [(⟨t218, t221⟩ : S28)]) (wrap64 (x5_2 + 1)) l0_0 l0_1) else (none)) = some r := H
             have A23 := Aside0.mk A230
             clear A230
             by_cases c24 : x4_2.length < 2932031007402
             ·
              rw [if_pos c24] at H
              have LMc24 := Aside0.mk c24
              clear c24
              obtain ⟨y224, hy224⟩ : ∃ y_ : List (S28), y_ = (x4_2 ++ [(⟨t218, t221⟩ : S28)]) := ⟨_, rfl⟩
              replace H : (impl_Rows.l0 k2 t214 y224 (wrap64 (x5_2 + 1)) l0_0 l0_1) = some r := by first | (rw [hy224]; with_reducible exact H) | (have H2_ := (Option.bind_some _ _).symm.trans H; rw [hy224]; with_reducible exact H2_) | (have H2_ := (Option.bind_some _ _).symm.trans H; with_reducible exact H2_) | with_reducible exact H | (rw [hy224]; exact H) | exact H
              have Ny224 := Aside0.mk hy224
              clear hy224
              have H' := Aside0.mk H
              clear H
              have hcz25_0 : wr.cell? ⟨gb211, 0, none⟩ = some (.slice A0_0 l0_0.length c0_0) := (blk_cell BK211.out 0).trans rfl
              have hcz25_1 : wr.cell? ⟨gb211, 1, none⟩ = some (.slice A0_1 l0_1.length c0_1) := (blk_cell BK211.out 1).trans rfl
              have hfz25_0 := blk_frozen BK211.out 0
              have hfz25_1 := blk_frozen BK211.out 1
              have p215 : 0 ≤ (0 : Int) := (by omega)
              have q215 : 0 < (l0_0.length : Int) := of_decide_eq_true (by first | (with_reducible assumption) | assumption)
              obtain ⟨ad215, e215, hx215_0⟩ := Kd.at_int HR0_0.out 0 p215 q215
              cases e215
              have qi215 : (0 < l0_0.length) = True := eq_true (by omega)
              (try rw [show ((0 : Int)).toNat = 0 from rfl] at hx215_0)
              (try rw [Addr.add_zero'] at hx215_0)
              replace hx215_0 := (HB.out.cell (World.block_lt_of_cell? w _ hx215_0)).trans hx215_0
              replace p215 := eq_true p215
              replace q215 := eq_true q215
              try go_wp2
              replace HO_4 := Aside0.mk (Kd.S_drew HO_4.out)
              replace BK211 := Aside0.mk (blk_drew BK211.out)
              replace HB := Aside0.mk (below_drew1 HB.out)
              obtain ⟨i027, hi027, _, hsz27, _⟩ := info_parts info3
              (try clear hcut15)
              obtain ⟨A27, hcut27, hA27, hC27⟩ := print_drop_of (P := Try.prog) (Value.int .i64) 0 22 3 .i64 Try.underlying22 hi027 hsz27 (some ad215) c0_0 l0_0 1 (by omega) (of_decide_eq_true (by first | (with_reducible assumption) | assumption)) HC0_0.out
              have HR216 := Aside0.mk (Kd.C_of_reads (h1 := fun _ => rfl) (hA27 _ (Kd.reads_of_C HR0_0.out)))
              have HC216 := Aside0.mk hC27
              clear hA27 hC27 hi027 hsz27
              obtain ⟨i028, hi028, _, hsz28, _⟩ := info_parts info3
              obtain ⟨A28, hcut28, hA28, hC28⟩ := print_mid_of (P := Try.prog) (Value.int .i64) 0 22 3 .i64 .i64 Try.underlying22 hi028 hsz28 A0_1 c0_1 l0_1 (ji19) (wrap64 ((wrap64 (x5_2 + 1)) * t214)) (of_decide_eq_true (by first | (with_reducible assumption) | assumption)) (by first | omega | exact of_decide_eq_true (by first | (with_reducible assumption) | assumption)) (of_decide_eq_true (by first | (with_reducible assumption) | assumption)) HC0_1.out
              have HR217 := Aside0.mk (Kd.C_of_reads (h1 := fun _ => rfl) (hA28 _ (Kd.reads_of_C HR0_1.out)))
              have HC217 := Aside0.mk hC28
              clear hA28 hC28 hi028 hsz28
              refine start_ (n := 19) (S := fun w' => w'.cell? ⟨gb211, 0, none⟩ = some (.slice (some ad215) l0_0.length c0_0) ∧ w'.cell? ⟨gb211, 1, none⟩ = some (.slice A0_1 l0_1.length c0_1)) (ds := []) #[false, false, false, false, false, false, false, false, false, false, false, false, false, false, false, false, false, false, false] (by kernel_rfl) rfl rfl ⟨(blk_cell BK211.out 0).trans rfl, (blk_cell BK211.out 1).trans rfl⟩ (fun hHeld => ?_); refine with_tabW impl_Rows.tab8 impl_Rows.bits8 (fun HT_ HW_ => ?_)
              generalize wr.drew = w26 at HO_4 BK211 HB HR216 HR217 hHeld ⊢
              refine pure_ (i := 0) (N := some 27) (v := ?_) (a' := ?_) #[true, false, false, false, false, false, false, false, false, false, false, false, false, false, false, false, false, false, false] rfl rfl (any_of HT_.out (by kernel_rfl)) (fun _ _ _ h => h) (Or.inl ⟨by rfl, ?_⟩) ?_ ?_
              rotate_left
              ·
               intro w'
               go_simp
               with_reducible rfl
              rotate_left
              ·
               simp only [Act.put, List.setIfInBounds_toArray, List.set_cons_zero, List.set_cons_succ, i64_w, i32_w]
               rfl
              refine pure_ (i := 1) (N := some 28) (v := ?_) (a' := ?_) #[true, true, false, false, false, false, false, false, false, false, false, false, false, false, false, false, false, false, false] rfl rfl (any_of HT_.out (by kernel_rfl)) (fun _ _ _ h => h) (Or.inl ⟨by rfl, ?_⟩) ?_ ?_
              rotate_left
              ·
               intro w'
               go_simp
               with_reducible rfl
              rotate_left
              ·
               simp only [Act.put, List.setIfInBounds_toArray, List.set_cons_zero, List.set_cons_succ, i64_w, i32_w]
               rfl
              refine pure_ (i := 4) (N := some 31) (v := ?_) (a' := ?_) #[true, true, false, false, true, false, false, false, false, false, false, false, false, false, false, false, false, false, false] rfl rfl (any_of HT_.out (by kernel_rfl)) (fun _ _ _ h => h) (Or.inl ⟨by rfl, ?_⟩) ?_ ?_
              rotate_left
              ·
               intro w'
               go_simp
               with_reducible rfl
              rotate_left
              ·
               simp only [Act.put, List.setIfInBounds_toArray, List.set_cons_zero, List.set_cons_succ, i64_w, i32_w]
               rfl
              refine pure_ (i := 6) (N := some 33) (v := ?_) (a' := ?_) #[true, true, false, false, true, false, true, false, false, false, false, false, false, false, false, false, false, false, false] rfl rfl (any_of HT_.out (by kernel_rfl)) (fun _ _ _ h => h) (Or.inl ⟨by rfl, ?_⟩) ?_ ?_
              rotate_left
              ·
               intro w'
               go_simp
               with_reducible rfl
              rotate_left
              ·
               simp only [Act.put, List.setIfInBounds_toArray, List.set_cons_zero, List.set_cons_succ, i64_w, i32_w]
               rfl
              refine pure_ (i := 7) (N := some 34) (v := ?_) (a' := ?_) #[true, true, false, false, true, false, true, true, false, false, false, false, false, false, false, false, false, false, false] rfl rfl (any_of HT_.out (by kernel_rfl)) (fun _ _ _ h => h) (Or.inl ⟨by rfl, ?_⟩) ?_ ?_
              rotate_left
              ·
               intro w'
               go_simp
               with_reducible rfl
              rotate_left
              ·
               simp only [Act.put, List.setIfInBounds_toArray, List.set_cons_zero, List.set_cons_succ, i64_w, i32_w]
               rfl
              refine pure_ (i := 8) (N := some 35) (v := ?_) (a' := ?_) #[true, true, false, false, true, false, true, true, true, false, false, false, false, false, false, false, false, false, false] rfl rfl (any_of HT_.out (by kernel_rfl)) (fun _ _ _ h => h) (Or.inl ⟨by rfl, ?_⟩) ?_ ?_
              rotate_left
              ·
               intro w'
               go_simp
               with_reducible rfl
              rotate_left
              ·
               simp only [Act.put, List.setIfInBounds_toArray, List.set_cons_zero, List.set_cons_succ, i64_w, i32_w]
               rfl
              refine pure_ (i := 9) (N := some 36) (v := ?_) (a' := ?_) #[true, true, false, false, true, false, true, true, true, true, false, false, false, false, false, false, false, false, false] rfl rfl (any_of HT_.out (by kernel_rfl)) (fun _ _ _ h => h) (Or.inl ⟨by rfl, ?_⟩) ?_ ?_
              rotate_left
              ·
               intro w'
               go_simp
               with_reducible rfl
              rotate_left
              ·
               simp only [Act.put, List.setIfInBounds_toArray, List.set_cons_zero, List.set_cons_succ, i64_w, i32_w]
               rfl
              refine pure_ (i := 10) (N := some 37) (v := ?_) (a' := ?_) #[true, true, false, false, true, false, true, true, true, true, true, false, false, false, false, false, false, false, false] rfl rfl (any_of HT_.out (by kernel_rfl)) (fun _ _ _ h => h) (Or.inl ⟨by rfl, ?_⟩) ?_ ?_
              rotate_left
              ·
               intro w'
               go_simp
               with_reducible rfl
              rotate_left
              ·
               simp only [Act.put, List.setIfInBounds_toArray, List.set_cons_zero, List.set_cons_succ, i64_w, i32_w]
               rfl
              refine pure_ (i := 11) (N := some 38) (v := ?_) (a' := ?_) #[true, true, false, false, true, false, true, true, true, true, true, true, false, false, false, false, false, false, false] rfl rfl (any_of HT_.out (by kernel_rfl)) (fun _ _ _ h => h) (Or.inl ⟨by rfl, ?_⟩) ?_ ?_
              rotate_left
              ·
               intro w'
               go_simp
               with_reducible rfl
              rotate_left
              ·
               simp only [Act.put, List.setIfInBounds_toArray, List.set_cons_zero, List.set_cons_succ, i64_w, i32_w]
               rfl
              refine pure_ (i := 12) (N := some 39) (v := ?_) (a' := ?_) #[true, true, false, false, true, false, true, true, true, true, true, true, true, false, false, false, false, false, false] rfl rfl (any_of HT_.out (by kernel_rfl)) (fun _ _ _ h => h) (Or.inl ⟨by rfl, ?_⟩) ?_ ?_
              rotate_left
              ·
               intro w'
               go_simp
               with_reducible rfl
              rotate_left
              ·
               simp only [Act.put, List.setIfInBounds_toArray, List.set_cons_zero, List.set_cons_succ, i64_w, i32_w]
               rfl
              refine take_ (i := 2) (N := some 29) (v := ?_) (a' := ?_) #[true, true, true, false, true, false, true, true, true, true, true, true, true, false, false, false, false, false, false] rfl rfl (take_ofW HT_.out HW_.out (by kernel_rfl)) (fun _ _ _ h => h) (Or.inl ⟨by rfl, ?_⟩) hHeld ?_ ?_
              rotate_left
              ·
               rintro w' ⟨s0, s1⟩
               go_simp
               with_reducible rfl
              rotate_left
              ·
               simp only [Act.put, List.setIfInBounds_toArray, List.set_cons_zero, List.set_cons_succ, i64_w, i32_w]
               rfl
              refine pure_ (i := 3) (N := some 30) (v := ?_) (a' := ?_) #[true, true, true, true, true, false, true, true, true, true, true, true, true, false, false, false, false, false, false] rfl rfl (any_of HT_.out (by kernel_rfl)) (fun _ _ _ h => h) (Or.inl ⟨by rfl, ?_⟩) ?_ ?_
              rotate_left
              ·
               intro w'
               go_simp
               with_reducible rfl
              rotate_left
              ·
               simp only [Act.put, List.setIfInBounds_toArray, List.set_cons_zero, List.set_cons_succ, i64_w, i32_w]
               rfl
              refine take_ (i := 5) (N := some 32) (v := ?_) (a' := ?_) #[true, true, true, true, true, true, true, true, true, true, true, true, true, false, false, false, false, false, false] rfl rfl (take_ofW HT_.out HW_.out (by kernel_rfl)) (fun _ _ _ h => h) (Or.inl ⟨by rfl, ?_⟩) hHeld ?_ ?_
              rotate_left
              ·
               rintro w' ⟨s0, s1⟩
               go_simp
               with_reducible rfl
              rotate_left
              ·
               simp only [Act.put, List.setIfInBounds_toArray, List.set_cons_zero, List.set_cons_succ, i64_w, i32_w]
               rfl
              refine pure_ (i := 13) (N := some 40) (v := ?_) (a' := ?_) #[true, true, true, true, true, true, true, true, true, true, true, true, true, true, false, false, false, false, false] rfl rfl (any_of HT_.out (by kernel_rfl)) (fun _ _ _ h => h) (Or.inl ⟨by rfl, ?_⟩) ?_ ?_
              rotate_left
              ·
               intro w'
               go_simp
               with_reducible rfl
              rotate_left
              ·
               simp only [Act.put, List.setIfInBounds_toArray, List.set_cons_zero, List.set_cons_succ, i64_w, i32_w]
               rfl
              refine pure_ (i := 14) (N := some 41) (v := ?_) (a' := ?_) #[true, true, true, true, true, true, true, true, true, true, true, true, true, true, true, false, false, false, false] rfl rfl (any_of HT_.out (by kernel_rfl)) (fun _ _ _ h => h) (Or.inl ⟨by rfl, ?_⟩) ?_ ?_
              rotate_left
              ·
               intro w'
               go_simp
               with_reducible rfl
              rotate_left
              ·
               simp only [Act.put, List.setIfInBounds_toArray, List.set_cons_zero, List.set_cons_succ, i64_w, i32_w]
               rfl
              refine one_ (i := 15) (N := some 42) #[true, true, true, true, true, true, true, true, true, true, true, true, true, true, true, true, false, false, false] rfl rfl (one_of HT_.out (by kernel_rfl)) (by decide) (fun K hK => ?_)
              refine goes_ Try.func23 (by kernel_rfl) rfl #[.agg #[.slice A27 (l0_0.drop 1).length (c0_0 - 1), .slice A28 ((l0_1.take ((wrap64 ((wrap64 (x5_2 + 1)) * t214)) : Int).toNat).drop ((ji19) : Int).toNat).length (c0_1 - (ji19).toNat)]] (by rfl) rfl rfl (by (try simp only [List.map_toArray, List.map_cons, List.map_nil]); first | done | (rw [show (l0_0.drop 1).length = (l0_0.length - 1) from List.length_drop] <;> rfl) | (rw [show ((l0_1.take ((wrap64 ((wrap64 (x5_2 + 1)) * t214)) : Int).toNat).drop ((ji19) : Int).toNat).length = ((wrap64 ((wrap64 (x5_2 + 1)) * t214)).toNat - (ji19).toNat) from (by rw [List.length_drop, List.length_take]; have h_ : ((wrap64 ((wrap64 (x5_2 + 1)) * t214)) : Int) ≤ (l0_1.length : Int) := of_decide_eq_true (by first | (with_reducible assumption) | assumption); omega)] <;> rfl) | (simp only [hji19]; rfl) | rfl | (simp only [List.length_drop, List.length_take]; rfl) | (rw [show (l0_0.drop 1).length = (l0_0.length - 1) from List.length_drop, show ((l0_1.take ((wrap64 ((wrap64 (x5_2 + 1)) * t214)) : Int).toNat).drop ((ji19) : Int).toNat).length = ((wrap64 ((wrap64 (x5_2 + 1)) * t214)).toNat - (ji19).toNat) from (by rw [List.length_drop, List.length_take]; have h_ : ((wrap64 ((wrap64 (x5_2 + 1)) * t214)) : Int) ≤ (l0_1.length : Int) := of_decide_eq_true (by first | (with_reducible assumption) | assumption); omega)] <;> rfl)) ?_
              with_reducible refine (impl_copyArray.calls _ _ (l0_0.drop 1) _ _ ((l0_1.take ((wrap64 ((wrap64 (x5_2 + 1)) * t214)) : Int).toNat).drop ((ji19) : Int).toNat) t218 t221 _ ?side1 ?side2 ?side3 ?side4 A23.out).mono ?_
              (case side1 => exact cU (Kd.C_below HR216.out HB.out))
              (case side2 => exact HC216.out)
              (case side3 => exact cU (Kd.C_below HR217.out HB.out))
              (case side4 => exact HC217.out)
              rintro e w29 ⟨v219, v222, rfl, ho0, ho1, hb⟩
              refine ⟨_, rfl, ?_⟩
              replace HO_4 := Aside0.mk (Kd.S_mono (Kd.S_told (Kd.S_told (Kd.S_old (SU HO_4.out) hb) (Kd.R_base ho0)) (Kd.R_base ho1)) (fun _ h_ => h_.1))
              have HO220 := Aside0.mk (Kd.R_lower ho0 (below_size (bS1 HB.out GE211.out)))
              have HO223 := Aside0.mk (Kd.R_lower ho1 (below_size (bS1 HB.out GE211.out)))
              replace BK211 := Aside0.mk (kB BK211.out hb)
              replace HB := Aside0.mk (below_step (bS1 HB.out GE211.out) hb)
              (try clear hb)
              (try clear hb2)
              (try clear hk)
              (try clear hi)
              (try clear ho0)
              (try clear ho1)
              obtain ⟨Ao31, co31, eo31⟩ := Kd.R_slice HO220.out
              (first | subst eo31 | (injection eo31 with f1_ f2_ f3_; have f4_ := f1_.symm; have f5_ := f3_.symm; clear f1_ f2_ f3_; subst f4_; subst f5_))
              obtain ⟨Ao32, co32, eo32⟩ := Kd.R_slice HO223.out
              (first | subst eo32 | (injection eo32 with f1_ f2_ f3_; have f4_ := f1_.symm; have f5_ := f3_.symm; clear f1_ f2_ f3_; subst f4_; subst f5_))
              refine hK.out _ _ ⟨(blk_cell BK211.out 0).trans rfl, (blk_cell BK211.out 1).trans rfl⟩ (fun hHeld => ?_)
              clear hK K
              refine norm_ (a' := ?_) ?_ ?_
              rotate_left
              ·
               show Act.put _ (some 42) _ = _
               simp only [Act.put, List.setIfInBounds_toArray, List.set_cons_zero, List.set_cons_succ, i64_w, i32_w]
               rfl
              refine one_ (i := 16) (N := some 43) #[true, true, true, true, true, true, true, true, true, true, true, true, true, true, true, true, true, false, false] rfl rfl (one_of HT_.out (by kernel_rfl)) (by decide) (fun K hK => ?_)
              refine value_ (w1 := ?_) (v := ?_) (by rfl) rfl ?_ ?_
              rotate_left 2
              ·
               go_simp
               constructor
               ·
                rfl
               ·
                rfl
              refine hK.out _ _ ⟨(blk_cell (blk_alloc BK211.out _) 0).trans rfl, (blk_cell (blk_alloc BK211.out _) 1).trans rfl⟩ (fun hHeld => ?_)
              clear hK K
              refine norm_ (a' := ?_) ?_ ?_
              rotate_left
              ·
               show Act.put _ (some 43) _ = _
               simp only [Act.put, List.setIfInBounds_toArray, List.set_cons_zero, List.set_cons_succ, i64_w, i32_w]
               rfl
              refine one_ (i := 17) (N := some 44) #[true, true, true, true, true, true, true, true, true, true, true, true, true, true, true, true, true, true, false] rfl rfl (one_of HT_.out (by kernel_rfl)) (by decide) (fun K hK => ?_)
              refine Kd.S_append_step k28 (w0 := w) w.heap.size (by rfl) (.tmp 27) (.tmp 43) 26 28 (.agg #[(.slice none 0 0), (.slice none 0 0)]) 48 rfl Try.underlying26 info28 rfl (by decide) (by omega) u4 x4_2 (⟨t218, t221⟩ : S28) [.slice Ao31 t218.length co31, .slice Ao32 t221.length co32] (fun k_ => k_ ≠ gb211) (fun k_ => some k_ = (.slice Ao31 t218.length co31 : Value).ownBlock ∨ some k_ = (.slice Ao32 t221.length co32 : Value).ownBlock) rfl rfl ?aP (fun k_ hk_ => hk_.elim (fun h_ => ((Kd.R_mono (ok' := fun k_ => ((fun k_ => k_ ≠ gb211)) k_ ∧ some k_ ≠ (u4 : Value).ownBlock) (Kd.R_types (Kd.R_apart' (HO220.out) (Kd.S_typed HO_4.out) (by decide)) BK211.out (by decide)) (fun k_ hk => ⟨hk.2, hk.1.2⟩))).1 k_ h_.symm) (fun h_ => ((Kd.R_mono (ok' := fun k_ => ((fun k_ => k_ ≠ gb211)) k_ ∧ some k_ ≠ (u4 : Value).ownBlock) (Kd.R_types (Kd.R_apart' (HO223.out) (Kd.S_typed HO_4.out) (by decide)) BK211.out (by decide)) (fun k_ hk => ⟨hk.2, hk.1.2⟩))).1 k_ h_.symm)) ?aF ?aO ?aB ?aS ?aL ?_
              (case aP => exact k28_mkM _ _ _ (⟨t218, t221⟩ : S28) (Kd.R_mono (Kd.R_tight rfl (Kd.R_mono (ok' := fun k_ => ((fun k_ => k_ ≠ gb211)) k_ ∧ some k_ ≠ (u4 : Value).ownBlock) (Kd.R_types (Kd.R_apart' (HO220.out) (Kd.S_typed HO_4.out) (by decide)) BK211.out (by decide)) (fun k_ hk => ⟨hk.2, hk.1.2⟩))) (fun _ h_ => Or.inl h_)) (Kd.R_mono (Kd.R_tight rfl (Kd.R_mono (ok' := fun k_ => ((fun k_ => k_ ≠ gb211)) k_ ∧ some k_ ≠ (u4 : Value).ownBlock) (Kd.R_types (Kd.R_apart' (HO223.out) (Kd.S_typed HO_4.out) (by decide)) BK211.out (by decide)) (fun k_ hk => ⟨hk.2, hk.1.2⟩))) (fun _ h_ => Or.inr (h_))))
              (case aB => exact (bS1 HB.out GE211.out))
              (case aF => exact (fun k_ hk => Kd.freshB (g := gb211) (o := .cells #[.slice (some ad215) l0_0.length c0_0, .slice A0_1 l0_1.length c0_1] 28 (0, 0)) (kU BK211.out) k_ hk))
              (case aO => exact (by refine SU ?_; exact Kd.S_mono HO_4.out (fun k_ hk => ⟨hk.1.1, fun e_ => e_.elim (fun h_ => hk.1.2 h_) (fun h_ => hk.2 h_)⟩)))
              (case aS => exact (below_size (bS1 HB.out GE211.out)))
              (case aL => have := LMc24.out; omega)
              intro v225 w30 ho hb hg hat
              rw [← Ny224.out] at ho
              have n0_ := Aside0.mk (blk_grown (g := gb211) (o := .cells #[.slice (some ad215) l0_0.length c0_0, .slice A0_1 l0_1.length c0_1] 28 (0, 0)) (kU BK211.out) hg (Kd.S_away HO_4.out (fun _ hk => hk.1.1)))
              have n1_ := Aside0.mk (hb)
              have n2_ := Aside0.mk (ho)
              clear BK211 HB HO_4 HO220 HO223
              have BK211 := n0_
              have HB := n1_
              have HO226 := n2_
              clear n0_ n1_ n2_
              clear ho hb hg hat
              refine hK.out _ _ ⟨(blk_cell BK211.out 0).trans rfl, (blk_cell BK211.out 1).trans rfl⟩ (fun hHeld => ?_)
              clear hK K
              refine norm_ (a' := ?_) ?_ ?_
              rotate_left
              ·
               show Act.put _ (some 44) _ = _
               simp only [Act.put, List.setIfInBounds_toArray, List.set_cons_zero, List.set_cons_succ, i64_w, i32_w]
               rfl
              refine pure_ (i := 18) (N := some 4) (v := ?_) (a' := ?_) #[true, true, true, true, true, true, true, true, true, true, true, true, true, true, true, true, true, true, true] rfl rfl (any_of HT_.out (by kernel_rfl)) (fun _ _ _ h => h) (Or.inl ⟨by rfl, ?_⟩) ?_ ?_
              rotate_left
              ·
               intro w'
               go_simp
               with_reducible rfl
              rotate_left
              ·
               simp only [Act.put, List.setIfInBounds_toArray, List.set_cons_zero, List.set_cons_succ, i64_w, i32_w]
               rfl
              refine done_ (done_of HT_.out (by kernel_rfl)) ?_
              try go_wp2
              go_roundg k2
              case measure => have := HJ1.out; have := HK2.out; omega
              case rel => exact ⟨(y224), (wrap64 (x5_2 + 1)), (by first | rfl | (simp; done) | (simp [*]; done)), H', ⟨by have := HJ1.out; have := HK2.out; omega⟩, ⟨by refine SU ?_; exact HO226.out⟩, ⟨by refine kU ?_; exact BK211.out⟩, ⟨by exact bS1 HB.out GE211.out⟩⟩
             ·
              rw [if_neg c24] at H
              exact absurd H (by simp)
            ·
             rw [if_neg c22] at H
             exact absurd H (by simp)
           ·
            rw [if_neg c21] at H
            exact absurd H (by simp)
          ·
           rw [if_neg c20] at H
           exact absurd H (by simp)
         ·
          rw [if_neg c18] at H
          exact absurd H (by simp)
        ·
         rw [if_neg c17] at H
         have c17b0 : decide (x5_2 < (rd l0_0 0)) = false := decide_eq_false c17
         clear c17
         obtain rfl := Option.some.inj H
         have hcz33_0 : wr.cell? ⟨gb211, 0, none⟩ = some (.slice A0_0 l0_0.length c0_0) := (blk_cell BK211.out 0).trans rfl
         have hcz33_1 : wr.cell? ⟨gb211, 1, none⟩ = some (.slice A0_1 l0_1.length c0_1) := (blk_cell BK211.out 1).trans rfl
         have hfz33_0 := blk_frozen BK211.out 0
         have hfz33_1 := blk_frozen BK211.out 1
         have p215 : 0 ≤ (0 : Int) := (by omega)
         have q215 : 0 < (l0_0.length : Int) := of_decide_eq_true (by first | (with_reducible assumption) | assumption)
         obtain ⟨ad215, e215, hx215_0⟩ := Kd.at_int HR0_0.out 0 p215 q215
         cases e215
         have qi215 : (0 < l0_0.length) = True := eq_true (by omega)
         (try rw [show ((0 : Int)).toNat = 0 from rfl] at hx215_0)
         (try rw [Addr.add_zero'] at hx215_0)
         replace hx215_0 := (HB.out.cell (World.block_lt_of_cell? w _ hx215_0)).trans hx215_0
         replace p215 := eq_true p215
         replace q215 := eq_true q215
         go_wp2
         go_ret
         exact ⟨_, by first | rfl | (simp [errW_none, errW_some] <;> rfl) | (simp [*, errW_none, errW_some] <;> rfl), by refine SU ?_; exact Kd.S_mono HO_4.out (fun _ hk => trivial), by exact bS1 HB.out GE211.out⟩
       ·
        rw [if_neg c16] at H
        exact absurd H (by simp)
    ·
     rw [if_neg c12] at H
     exact absurd H (by simp)

-- NOT PRINTED: function 36 (slices_Grow_int_int)

/-! ### slices_Grow: function 36, walked by hand -/
set_option maxHeartbeats 8000000 in
set_option maxRecDepth 100000 in
theorem slices_Grow.calls (n : Int) (w : World) (h0 : 0 ≤ n) (h1 : n.toNat ≤ 5864062014805) : Calls Try.prog 36 #[.slice none 0 0, .int .i64 n] w fun e w' => ∃ v0_ : Value, e = .returned v0_ ∧ Kd.R (Kd.int .i64) 3 w' w.heap.size (fun _ => True) v0_ ([] : List Int) ∧ Below w.heap.size w w' := by
 have HB := Aside0.mk (Below.refl w.heap.size w)
 have c0b : decide (n < 0) = false := decide_eq_false (by omega)
 by_cases c1 : n > 0
 ·
  have c1b : decide (n > 0) = true := decide_eq_true c1
  go_enter Try.func36, Try.ntmps36
  go_wp2_with (first | ((with_reducible refine gate_builtin (b := .append) (xs := #[.tmp 20, .tmp 21]) rfl ?_); at_builtin; refine Kd.R_append_zeros (Kd.int .i64) (w0 := w) w.heap.size rfl (.tmp 20) (.tmp 21) 22 3 3 (.int .i64 0) 8 rfl Try.underlying22 Try.underlying3 info3 rfl (by decide) (by omega) (.slice none 0 0) ([] : List Int) 0 n (fun _ => True) rfl rfl rfl (fun _ _ => trivial) (Kd.R_nil _ _ _ _ _) h0 ?aB ?aS ?aL ?_; (case aB => exact HB.out); (case aS => exact Nat.le_refl _); (case aL => simp only [List.length_nil]; omega); intro v4 w4 ho hb hg hat; obtain ⟨Ao5, co5, eo5⟩ := Kd.R_slice ho; subst eo5; have HO := Aside0.mk (Kd.R_take (m := 0) ho (Nat.zero_le _)); replace HB := Aside0.mk hb; clear hg; clear hat; clear hb; clear ho))
  go_ret
  exact ⟨_, rfl, HO.out, HB.out⟩
 ·
  have c1b : decide (n > 0) = false := decide_eq_false c1
  go_enter Try.func36, Try.ntmps36
  go_wp2
  go_ret
  exact ⟨_, rfl, Kd.R_nil _ _ _ _ _, HB.out⟩

/-! ### slices_Concat_int_int: function 29 -/
mutual
def slices_Concat_int_int.l0 : Nat → List (List Int) → Int → List (List Int) → Int → Int → Option (List Int)
 | 0, _, _, _, _, _ => none
 | k + 1, x0, x3, x9, x10, x11 => if x11 < x10 then (if 0 ≤ x11 then (if x11 < (x9.length : Int) then (if (wrap64 (x3 + ((rd_L1 x9 x11).length : Int))) < 0 then (if 0 ≤ (-1) then (if ((-1) : Int).toNat ≤ 35184372088832 then (some ([] : List Int)) else (none)) else (none)) else (slices_Concat_int_int.l0 k x0 (wrap64 (x3 + ((rd_L1 x9 x11).length : Int))) x9 x10 (wrap64 (x11 + 1)))) else (none)) else (none)) else (if 0 ≤ x3 then (if (x3 : Int).toNat ≤ 5864062014805 then (if 0 ≤ 35184372088832 then (slices_Concat_int_int.l1 k (List.replicate 0 0) x0 (x0.length : Int) 0) else (none)) else (none)) else (none))
def slices_Concat_int_int.l1 : Nat → List Int → List (List Int) → Int → Int → Option (List Int)
 | 0, _, _, _, _ => none
 | k + 1, x6, x25, x26, x27 => if x27 < x26 then (if 0 ≤ x27 then (if x27 < (x25.length : Int) then (if x6.length + (rd_L1 x25 x27).length < 17592186044416 then (slices_Concat_int_int.l1 k (x6 ++ (rd_L1 x25 x27)) x25 x26 (wrap64 (x27 + 1))) else (none)) else (none)) else (none)) else (some x6)
end
def slices_Concat_int_int.f (k : Nat) (l0 : List (List Int)) : Option (List Int) := slices_Concat_int_int.l0 k l0 0 l0 (l0.length : Int) 0
set_option maxHeartbeats 8000000 in
set_option maxRecDepth 100000 in
theorem slices_Concat_int_int.calls (k : Nat) (A0 : Option Addr) (c0 : Nat) (l0 : List (List Int)) (r : List Int) (w : World) (hr0 : Kd.C (Kd.slice 3 (Kd.int .i64)) w A0 l0.length l0) (hc0 : l0.length ≤ c0) (h : slices_Concat_int_int.f k l0 = some r) :
  Calls Try.prog 29 #[.slice A0 l0.length c0] w fun e w' => ∃ v0_ : Value, e = .returned (v0_) ∧ Kd.R (Kd.int .i64) 3 w' w.heap.size (fun _ => True) v0_ r ∧ Below w.heap.size w w' := by
 have HR0 := Aside0.mk hr0
 have HC0 := Aside0.mk hc0
 clear hr0 hc0
 have HB := Aside0.mk (Below.refl w.heap.size w)
 have H : (slices_Concat_int_int.l0 k l0 0 l0 (l0.length : Int) 0) = some r := h
 clear h
 have H' := Aside0.mk H
 clear H
 go_enter Try.func29, Try.ntmps29
 go_wp2
 go_loopg [3, 11] k (fun kq v3 v11 w' => ∃ (x3_1 : Int) (x11_1 : Int), v3 = .int .i64 x3_1 ∧ v11 = .int .i64 x11_1 ∧ Aside0 (slices_Concat_int_int.l0 kq l0 x3_1 l0 (l0.length : Int) x11_1 = some r) ∧ Aside0 (kq ≤ k) ∧ Aside0 (Below w.heap.size w w'))
 case atStart => exact ⟨(0), (0), (by first | rfl | (simp; done) | (simp [*]; done)), (by first | rfl | (simp; done) | (simp [*]; done)), H', ⟨Nat.le_refl _⟩, ⟨by exact bU HB.out⟩⟩
 case round =>
  clear H'
  obtain ⟨x3_1, x11_1, rfl, rfl, HA, HK1, HB⟩ := hrel
  cases gk with
  | zero => exact absurd HA.out (by simp [slices_Concat_int_int.l0])
  | succ k1 =>
   have H := HA.out
   clear HA
   simp only [slices_Concat_int_int.l0] at H
   by_cases c2 : x11_1 < (l0.length : Int)
   ·
    rw [if_pos c2] at H
    have c2b0 : decide (x11_1 < (l0.length : Int)) = true := decide_eq_true c2
    clear c2
    by_cases c3 : 0 ≤ x11_1
    ·
     rw [if_pos c3] at H
     have c3b0 : decide (0 ≤ x11_1) = true := decide_eq_true c3
     clear c3
     by_cases c4 : x11_1 < (l0.length : Int)
     ·
      rw [if_pos c4] at H
      have c4b0 : decide (x11_1 < (l0.length : Int)) = true := decide_eq_true c4
      clear c4
      by_cases c5 : (wrap64 (x3_1 + ((rd_L1 l0 x11_1).length : Int))) < 0
      ·
       rw [if_pos c5] at H
       have c5b0 : decide ((wrap64 (x3_1 + ((rd_L1 l0 x11_1).length : Int))) < 0) = true := decide_eq_true c5
       clear c5
       by_cases c6 : 0 ≤ (-1)
       ·
        exact absurd c6 (by decide)
       ·
        rw [if_neg c6] at H
        exact absurd H (by simp)
      ·
       rw [if_neg c5] at H
       have c5b0 : decide ((wrap64 (x3_1 + ((rd_L1 l0 x11_1).length : Int))) < 0) = false := decide_eq_false c5
       clear c5
       have H' := Aside0.mk H
       clear H
       have p227 : 0 ≤ (x11_1 : Int) := of_decide_eq_true (by first | (with_reducible assumption) | assumption)
       have q227 : x11_1 < (l0.length : Int) := of_decide_eq_true (by first | (with_reducible assumption) | assumption)
       obtain ⟨ad227, A227_0, c227_0, e227, hx227_0, hl227_0, hi227_0⟩ := at_L1 HR0.out x11_1 p227 q227
       cases e227
       replace hx227_0 := (HB.out.cell (World.block_lt_of_cell? w _ hx227_0)).trans hx227_0
       have HR227_0 := Aside0.mk hi227_0
       have HC227_0 := Aside0.mk hl227_0
       clear hi227_0 hl227_0
       replace p227 := eq_true p227
       replace q227 := eq_true q227
       go_wp2
       go_roundg k1
       case measure => have := HK1.out; omega
       case rel => exact ⟨(wrap64 (x3_1 + ((rd_L1 l0 x11_1).length : Int))), (wrap64 (x11_1 + 1)), (by first | rfl | (simp; done) | (simp [*]; done)), (by first | rfl | (simp; done) | (simp [*]; done)), H', ⟨by have := HK1.out; omega⟩, ⟨by exact bU HB.out⟩⟩
     ·
      rw [if_neg c4] at H
      exact absurd H (by simp)
    ·
     rw [if_neg c3] at H
     exact absurd H (by simp)
   ·
    rw [if_neg c2] at H
    have c2b0 : decide (x11_1 < (l0.length : Int)) = false := decide_eq_false c2
    clear c2
    by_cases c10 : 0 ≤ x3_1
    ·
     rw [if_pos c10] at H
     have c10b0 := eq_true c10
     have c10b1 : decide (0 ≤ x3_1) = true := decide_eq_true c10
     clear c10
     by_cases c11 : (x3_1 : Int).toNat ≤ 5864062014805
     ·
      rw [if_pos c11] at H
      have c11b0 := eq_true c11
      have c11b1 : decide ((x3_1 : Int).toNat ≤ 5864062014805) = true := decide_eq_true c11
      clear c11
      obtain ⟨y231, hy231⟩ : ∃ y_ : List (S28), y_ = (List.replicate (x3_1 : Int).toNat z28) := ⟨_, rfl⟩
      replace H : (if 0 ≤ 35184372088832 then (slices_Concat_int_int.l1 k1 (List.replicate 0 0) l0 (l0.length : Int) 0) else (none)) = some r := by first | (rw [hy231]; with_reducible exact H) | (have H2_ := (Option.bind_some _ _).symm.trans H; rw [hy231]; with_reducible exact H2_) | (have H2_ := (Option.bind_some _ _).symm.trans H; with_reducible exact H2_) | with_reducible exact H | (rw [hy231]; exact H) | exact H
      have Ny231 := Aside0.mk hy231
      clear hy231
      by_cases c12 : 0 ≤ 35184372088832
      ·
       rw [if_pos c12] at H
       have c12b0 := eq_true c12
       have c12b1 : decide (0 ≤ 35184372088832) = true := decide_eq_true c12
       clear c12
       obtain ⟨y234, hy234⟩ : ∃ y_ : List Int, y_ = (List.replicate 0 0) := ⟨_, rfl⟩
       replace H : (slices_Concat_int_int.l1 k1 y234 l0 (l0.length : Int) 0) = some r := by first | (rw [hy234]; with_reducible exact H) | (have H2_ := (Option.bind_some _ _).symm.trans H; rw [hy234]; with_reducible exact H2_) | (have H2_ := (Option.bind_some _ _).symm.trans H; with_reducible exact H2_) | with_reducible exact H | (rw [hy234]; exact H) | exact H
       have Ny234 := Aside0.mk hy234
       clear hy234
       have H' := Aside0.mk H
       clear H
       go_wp2_with (first | ((with_reducible refine gate_callee (f := 36) rfl ?_); refine goesL_ (some 24) rfl rfl Try.func36 (by kernel_rfl) rfl #[.slice none 0 0, .int .i64 x3_1] rfl lU ?_; (with_reducible refine (slices_Grow.calls x3_1 _ ?side1 ?side2).mono ?_); (case side1 => exact of_decide_eq_true c10b1); (case side2 => exact of_decide_eq_true c11b1); rintro e w15 ⟨v235, rfl, ho16, hb⟩; refine ⟨_, rfl, ?_⟩; rw [show ([] : List Int) = _ from Ny234.out.symm] at ho16; have HO236 := Aside0.mk (Kd.R_lower ho16 (below_size (bU HB.out))); replace HB := Aside0.mk (below_step (bU HB.out) hb); clear hb ho16))
       go_loopg [6, 27] k1 (fun kq v6 v27 w' => ∃ (x6_2 : List Int) (x27_2 : Int), v27 = .int .i64 x27_2 ∧ Aside0 (slices_Concat_int_int.l1 kq x6_2 l0 (l0.length : Int) x27_2 = some r) ∧ Aside0 (kq ≤ k1) ∧ Aside0 (Kd.R (Kd.int .i64) 3 w' w.heap.size (fun _ => True) v6 x6_2) ∧ Aside0 (Below w.heap.size w w'))
       case atStart => exact ⟨(y234), (0), (by first | rfl | (simp; done) | (simp [*]; done)), H', ⟨Nat.le_refl _⟩, ⟨by refine RU ?_; exact HO236.out⟩, ⟨by exact bU HB.out⟩⟩
       case round =>
        clear H'
        try clear c1
        try clear c2
        try clear c2b0
        try clear p2
        try clear q2
        try clear hx2
        try clear c3
        try clear c3b0
        try clear c4
        try clear c4b0
        try clear c5
        try clear c5b0
        try clear c6
        try clear c6b0
        try clear c6b1
        try clear p6
        try clear c7
        try clear c7b0
        try clear c7b1
        try clear c10
        try clear c10b0
        try clear c10b1
        try clear c11
        try clear c11b0
        try clear c11b1
        try clear c12
        try clear c12b0
        try clear c12b1
        try clear hx227_0
        try clear p227
        try clear q227
        obtain ⟨x6_2, x27_2, rfl, HA, HK2, HO_6, HB⟩ := hrel
        cases gk with
        | zero => exact absurd HA.out (by simp [slices_Concat_int_int.l1])
        | succ k2 =>
         have H := HA.out
         clear HA
         simp only [slices_Concat_int_int.l1] at H
         by_cases c17 : x27_2 < (l0.length : Int)
         ·
          rw [if_pos c17] at H
          have c17b0 : decide (x27_2 < (l0.length : Int)) = true := decide_eq_true c17
          clear c17
          by_cases c18 : 0 ≤ x27_2
          ·
           rw [if_pos c18] at H
           have c18b0 : decide (0 ≤ x27_2) = true := decide_eq_true c18
           clear c18
           by_cases c19 : x27_2 < (l0.length : Int)
           ·
            rw [if_pos c19] at H
            have c19b0 : decide (x27_2 < (l0.length : Int)) = true := decide_eq_true c19
            clear c19
            by_cases c20 : x6_2.length + (rd_L1 l0 x27_2).length < 17592186044416
            ·
             rw [if_pos c20] at H
             have LMc20 := Aside0.mk c20
             clear c20
             obtain ⟨y238, hy238⟩ : ∃ y_ : List Int, y_ = (x6_2 ++ (rd_L1 l0 x27_2)) := ⟨_, rfl⟩
             replace H : (slices_Concat_int_int.l1 k2 y238 l0 (l0.length : Int) (wrap64 (x27_2 + 1))) = some r := by first | (rw [hy238]; with_reducible exact H) | (have H2_ := (Option.bind_some _ _).symm.trans H; rw [hy238]; with_reducible exact H2_) | (have H2_ := (Option.bind_some _ _).symm.trans H; with_reducible exact H2_) | with_reducible exact H | (rw [hy238]; exact H) | exact H
             have Ny238 := Aside0.mk hy238
             clear hy238
             have H' := Aside0.mk H
             clear H
             have p237 : 0 ≤ (x27_2 : Int) := of_decide_eq_true (by first | (with_reducible assumption) | assumption)
             have q237 : x27_2 < (l0.length : Int) := of_decide_eq_true (by first | (with_reducible assumption) | assumption)
             obtain ⟨ad237, A237_0, c237_0, e237, hx237_0, hl237_0, hi237_0⟩ := at_L1 HR0.out x27_2 p237 q237
             cases e237
             replace hx237_0 := (HB.out.cell (World.block_lt_of_cell? w _ hx237_0)).trans hx237_0
             have HR237_0 := Aside0.mk hi237_0
             have HC237_0 := Aside0.mk hl237_0
             clear hi237_0 hl237_0
             replace p237 := eq_true p237
             replace q237 := eq_true q237
             go_wp2_with (first | ((with_reducible refine gate_builtin (b := .append) (xs := #[.tmp 31, .tmp 32]) rfl ?_); at_builtin; refine Kd.R_append_rows (Kd.int .i64) (w0 := w) w.heap.size rfl (.tmp 31) (.tmp 32) 22 3 (.int .i64 0) 8 rfl Try.underlying22 info3 rfl (by decide) (by omega) u6 x6_2 (rd_L1 l0 x27_2) _ _ _ (fun _ => True) (fun _ => False) rfl rfl ?aO ?aR (fun _ _ h => h) (fun _ h => h.elim) ?aF ?aB ?aS ?aL ?_; (case aR => exact cU (Kd.C_below HR237_0.out HB.out)); (case aB => exact (bU HB.out)); (case aF => exact (fun _ _ => trivial)); (case aO => exact (RU HO_6.out)); (case aS => exact (below_size (bU HB.out))); (case aL => have := LMc20.out; omega); intro v239 w21 ho hb hg hat; rw [← Ny238.out] at ho; have n0_ := Aside0.mk (hb); have n1_ := Aside0.mk (ho); clear HB; clear HO_6; have HB := n0_; have HO240 := n1_; clear n0_ n1_; clear ho hb hg hat))
             go_roundg k2
             case measure => have := HK1.out; have := HK2.out; omega
             case rel => exact ⟨(y238), (wrap64 (x27_2 + 1)), (by first | rfl | (simp; done) | (simp [*]; done)), H', ⟨by have := HK1.out; have := HK2.out; omega⟩, ⟨by refine RU ?_; exact HO240.out⟩, ⟨by exact bU HB.out⟩⟩
            ·
             rw [if_neg c20] at H
             exact absurd H (by simp)
           ·
            rw [if_neg c19] at H
            exact absurd H (by simp)
          ·
           rw [if_neg c18] at H
           exact absurd H (by simp)
         ·
          rw [if_neg c17] at H
          have c17b0 : decide (x27_2 < (l0.length : Int)) = false := decide_eq_false c17
          clear c17
          obtain rfl := Option.some.inj H
          go_wp2
          go_ret
          exact ⟨_, by first | rfl | (simp [errW_none, errW_some] <;> rfl) | (simp [*, errW_none, errW_some] <;> rfl), by refine RU ?_; exact HO_6.out, by exact bU HB.out⟩
      ·
       rw [if_neg c12] at H
       exact absurd H (by simp)
     ·
      rw [if_neg c11] at H
      exact absurd H (by simp)
    ·
     rw [if_neg c10] at H
     exact absurd H (by simp)

end Go.Proofs.Ytnpcjppcoejgmaa.PFnExactPick
