/- The walk of what a law reaches, for the law's row: written by a program of this session; it has no condition of its own. -/
import Derived.Test.YtcnbajdnlkcjjaaPFnRowsx0
import Derived.Test.YtcnbajdnlkcjjaaQ
import Derived.Test.YtcnbajdnlkcjjaaPFnRowsx1
namespace Go.Proofs.Ytcnbajdnlkcjjaa.PFnRows
open Go.RowKit Go.Proofs.YtcnbajdnlkcjjaaW.PrintWords Go.Proofs.YtcnbajdnlkcjjaaW.PrintLast Go.Proofs.YtcnbajdnlkcjjaaW.PrintMore Go.Proofs.YtcnbajdnlkcjjaaQ
attribute [local go_sem] max2_int min2_int max_two min_two max_three min_three max_four min_four   -- for this text's walks alone
set_option linter.unusedVariables false
set_option linter.unusedSimpArgs false

/-! ### spec_l1Once: function 118 -/
def spec_l1Once.f (s0_0 : List Int) (s0_1 : Int) (s0_2 : Int) (a1 : Int) : Option (Bool × Int × Int) := (spec_l1Below.f s0_0 s0_1 s0_2 a1).bind fun bt193 => (some ((bt193.1 == 0), bt193.2.1, bt193.2.2))
set_option maxHeartbeats 8000000 in
set_option maxRecDepth 100000 in
theorem spec_l1Once.calls (g : Nat) (s0_0 : List Int) (s0_1 : Int) (s0_2 : Int) (a1 : Int) (r1 : Bool) (r2 : Int) (r3 : Int) (w0 w : World) (hI : IsS78 w0 w g s0_0 s0_1 s0_2) (hB : Below w0.heap.size w0 w) (h : spec_l1Once.f s0_0 s0_1 s0_2 a1 = some (r1, r2, r3)) :
    Calls Try.prog 118 #[.pointer (some ⟨g, 0, none⟩), .int .i64 a1] w fun e w' => e = .returned (.bool r1) ∧ IsS78 w0 w' g s0_0 r2 r3 ∧ Below w0.heap.size w0 w' ∧ KeepBut w w' g none := by
  have HI0 := Aside0.mk hI
  have HK := Aside0.mk (KeepBut.refl w g none)
  have HL := Aside0.mk hB.size
  clear hI
  have HW0 := Aside0.mk hB.size
  have HB := Aside0.mk hB
  clear hB
  have H : ((spec_l1Below.f s0_0 s0_1 s0_2 a1).bind fun bt193 => (some ((bt193.1 == 0), bt193.2.1, bt193.2.2))) = some (r1, r2, r3) := h
  clear h
  replace H := Option.bind_eq_some_iff.mp H
  obtain ⟨⟨t193, t194, t195⟩, A30, H⟩ := H
  replace H : (some ((t193 == 0), t194, t195)) = some (r1, r2, r3) := H
  have A3 := Aside0.mk A30
  clear A30
  simp only [Option.some.injEq, Prod.mk.injEq] at H
  obtain ⟨rfl, rfl, rfl⟩ := H
  go_enter Try.func118, Try.ntmps118
  go_wp2_with (first | ((with_reducible refine gate_callee (f := 97) rfl ?_); refine goesL_ (some 7) rfl rfl Try.func97 (by kernel_rfl) rfl #[.pointer (some ⟨g, 0, none⟩), .int .i64 a1] rfl (by (try simp only [List.map_toArray, List.map_cons, List.map_nil]); first | done | rfl | (simp only [List.length_drop, List.length_take]; rfl)) ?_; (with_reducible refine (spec_l1Below.calls g s0_0 s0_1 s0_2 a1 t193 t194 t195 w0 _ ?side1 ?side2 A3.out).mono ?_); (case side1 => repeat (first | (with_reducible first | exact HI0.out | apply IsS78.alloc | apply IsS78.drewN | apply IsS78.drew | apply IsS78.set_1 | apply IsS78.set_2) | exact HI0.out)); (case side2 => repeat (first | (with_reducible first | exact HB.out | apply below_alloc | apply pw_below_drewN | apply below_drew1 | refine below_set ?_ (IsS78.ge HI0.out)) | exact HB.out)); rintro e w4 ⟨rfl, hi, hb, hk⟩; refine ⟨_, rfl, ?_⟩; have n0_ := Aside0.mk (KeepBut.trans (by repeat (first | (with_reducible first | exact HK.out | apply KeepBut.set_ | apply keep_drewN | apply keep_drew | apply keep_alloc) | exact HK.out)) hk (.inl rfl)); have n1_ := Aside0.mk (hb); have n2_ := Aside0.mk (hi); clear HK; clear HB; clear HI0; have HK := n0_; have HB := n1_; have HI0 := n2_; clear n0_ n1_ n2_; (try clear hb); (try clear hb2); (try clear hk); (try clear hi)))
  go_ret
  exact ⟨by first | rfl | (simp [errW_none, errW_some] <;> rfl) | (simp [*, errW_none, errW_some] <;> rfl), by repeat (first | (with_reducible first | exact HI0.out | apply IsS78.alloc | apply IsS78.drewN | apply IsS78.drew | apply IsS78.set_1 | apply IsS78.set_2) | exact HI0.out), by repeat (first | (with_reducible first | exact HB.out | apply below_alloc | apply pw_below_drewN | apply below_drew1 | refine below_set ?_ (IsS78.ge HI0.out)) | exact HB.out), by repeat (first | (with_reducible first | exact HK.out | apply KeepBut.set_ | apply keep_drewN | apply keep_drew | apply keep_alloc) | exact HK.out)⟩

/-! ### spec_l1DrawNum: function 119 -/
def spec_l1DrawNum.f (s0_0 : List Int) (s0_1 : Int) (s0_2 : Int) : Option (Int × Int × Int) := (spec_l1Once.f s0_0 s0_1 s0_2 12).bind fun bt196 => (if bt196.1 = true then ((spec_l1PickInt.f s0_0 bt196.2.1 bt196.2.2 (([1000000000000, (-1000000000000), 999999999999, 1000000, (-1000000), 1000001, 999999999999] : List Int))).bind fun bt202 => (some (bt202.1, bt202.2.1, bt202.2.2))) else ((spec_l1Below.f s0_0 bt196.2.1 bt196.2.2 20).bind fun bt205 => (some (wrap64 (bt205.1 - 6), bt205.2.1, bt205.2.2))))
set_option maxHeartbeats 8000000 in
set_option maxRecDepth 100000 in
theorem spec_l1DrawNum.calls (g : Nat) (s0_0 : List Int) (s0_1 : Int) (s0_2 : Int) (r1 : Int) (r2 : Int) (r3 : Int) (w0 w : World) (hI : IsS78 w0 w g s0_0 s0_1 s0_2) (hB : Below w0.heap.size w0 w) (h : spec_l1DrawNum.f s0_0 s0_1 s0_2 = some (r1, r2, r3)) :
    Calls Try.prog 119 #[.pointer (some ⟨g, 0, none⟩)] w fun e w' => e = .returned (.int .i64 r1) ∧ IsS78 w0 w' g s0_0 r2 r3 ∧ Below w0.heap.size w0 w' ∧ KeepBut w w' g none := by
  have HI0 := Aside0.mk hI
  have HK := Aside0.mk (KeepBut.refl w g none)
  have HL := Aside0.mk hB.size
  clear hI
  have HW0 := Aside0.mk hB.size
  have HB := Aside0.mk hB
  clear hB
  have H : ((spec_l1Once.f s0_0 s0_1 s0_2 12).bind fun bt196 => (if bt196.1 = true then ((spec_l1PickInt.f s0_0 bt196.2.1 bt196.2.2 (([1000000000000, (-1000000000000), 999999999999, 1000000, (-1000000), 1000001, 999999999999] : List Int))).bind fun bt202 => (some (bt202.1, bt202.2.1, bt202.2.2))) else ((spec_l1Below.f s0_0 bt196.2.1 bt196.2.2 20).bind fun bt205 => (some (wrap64 (bt205.1 - 6), bt205.2.1, bt205.2.2))))) = some (r1, r2, r3) := h
  clear h
  replace H := Option.bind_eq_some_iff.mp H
  obtain ⟨⟨t196, t197, t198⟩, A20, H⟩ := H
  replace H : (if t196 = true then ((spec_l1PickInt.f s0_0 t197 t198 (([1000000000000, (-1000000000000), 999999999999, 1000000, (-1000000), 1000001, 999999999999] : List Int))).bind fun bt202 => (some (bt202.1, bt202.2.1, bt202.2.2))) else ((spec_l1Below.f s0_0 t197 t198 20).bind fun bt205 => (some (wrap64 (bt205.1 - 6), bt205.2.1, bt205.2.2)))) = some (r1, r2, r3) := H
  have A2 := Aside0.mk A20
  clear A20
  by_cases c3 : t196 = true
  · subst c3
    have H1 : ((spec_l1PickInt.f s0_0 t197 t198 (([1000000000000, (-1000000000000), 999999999999, 1000000, (-1000000), 1000001, 999999999999] : List Int))).bind fun bt202 => (some (bt202.1, bt202.2.1, bt202.2.2))) = some (r1, r2, r3) := by rw [if_pos rfl] at H; exact H
    clear H
    have H := H1
    clear H1
    obtain ⟨y199, hy199⟩ : ∃ y_ : List Int, y_ = (([1000000000000, (-1000000000000), 999999999999, 1000000, (-1000000), 1000001, 999999999999] : List Int)) := ⟨_, rfl⟩
    replace H : ((spec_l1PickInt.f s0_0 t197 t198 y199).bind fun bt202 => (some (bt202.1, bt202.2.1, bt202.2.2))) = some (r1, r2, r3) := by first | (rw [hy199]; with_reducible exact H) | (have H2_ := (Option.bind_some _ _).symm.trans H; rw [hy199]; with_reducible exact H2_) | (have H2_ := (Option.bind_some _ _).symm.trans H; with_reducible exact H2_) | with_reducible exact H | (rw [hy199]; exact H) | exact H
    have Ny199 := Aside0.mk hy199
    clear hy199
    replace H := Option.bind_eq_some_iff.mp H
    obtain ⟨⟨t202, t203, t204⟩, A40, H⟩ := H
    replace H : (some (t202, t203, t204)) = some (r1, r2, r3) := H
    have A4 := Aside0.mk A40
    clear A40
    simp only [Option.some.injEq, Prod.mk.injEq] at H
    obtain ⟨rfl, rfl, rfl⟩ := H
    go_enter Try.func119, Try.ntmps119
    go_wp2_with (first | ((with_reducible refine gate_callee (f := 118) rfl ?_); refine goesL_ (some 4) rfl rfl Try.func118 (by kernel_rfl) rfl #[.pointer (some ⟨g, 0, none⟩), .int .i64 12] rfl (by (try simp only [List.map_toArray, List.map_cons, List.map_nil]); first | done | rfl | (simp only [List.length_drop, List.length_take]; rfl)) ?_; (with_reducible refine (spec_l1Once.calls g s0_0 s0_1 s0_2 12 true t197 t198 w0 _ ?side1 ?side2 A2.out).mono ?_); (case side1 => repeat (first | (with_reducible first | exact HI0.out | apply IsS78.alloc | apply IsS78.drewN | apply IsS78.drew | apply IsS78.set_1 | apply IsS78.set_2) | exact HI0.out)); (case side2 => repeat (first | (with_reducible first | exact HB.out | apply below_alloc | apply pw_below_drewN | apply below_drew1 | refine below_set ?_ (IsS78.ge HI0.out)) | exact HB.out)); rintro e w5 ⟨rfl, hi, hb, hk⟩; refine ⟨_, rfl, ?_⟩; have n0_ := Aside0.mk (KeepBut.trans (by repeat (first | (with_reducible first | exact HK.out | apply KeepBut.set_ | apply keep_drewN | apply keep_drew | apply keep_alloc) | exact HK.out)) hk (.inl rfl)); have n1_ := Aside0.mk (hb); have n2_ := Aside0.mk (hi); clear HK; clear HB; clear HI0; have HK := n0_; have HB := n1_; have HI0 := n2_; clear n0_ n1_ n2_; (try clear hb); (try clear hb2); (try clear hk); (try clear hi)) | ((with_reducible refine gate_dst (N := 6) rfl ?_); refine Kd.R_lit (Kd.int .i64) _ 3 ?hg (N := 6) ?hd (xs := ([1000000000000, (-1000000000000), 999999999999, 1000000, (-1000000), 1000001, 999999999999] : List Int)) (inner := [.int .i64 1000000000000, .int .i64 (-1000000000000), .int .i64 999999999999, .int .i64 1000000, .int .i64 (-1000000), .int .i64 1000001, .int .i64 999999999999]) (ok := fun _ => True) (okp := fun _ => True) ?hr ?hp (fun _ hk => hk) trivial (Below.refl _ _) (Nat.le_refl _) (by simp) ?_; (case hd => rfl); (case hg => rfl); (case hr => first | (go_simp; done) | (go_simp; rfl)); (case hp => exact (Reps.one (show Kd.M (Kd.int .i64) _ _ _ 1000000000000 [.int .i64 1000000000000] from rfl) (Reps.one (show Kd.M (Kd.int .i64) _ _ _ (-1000000000000) [.int .i64 (-1000000000000)] from rfl) (Reps.one (show Kd.M (Kd.int .i64) _ _ _ 999999999999 [.int .i64 999999999999] from rfl) (Reps.one (show Kd.M (Kd.int .i64) _ _ _ 1000000 [.int .i64 1000000] from rfl) (Reps.one (show Kd.M (Kd.int .i64) _ _ _ (-1000000) [.int .i64 (-1000000)] from rfl) (Reps.one (show Kd.M (Kd.int .i64) _ _ _ 1000001 [.int .i64 1000001] from rfl) (Reps.one (show Kd.M (Kd.int .i64) _ _ _ 999999999999 [.int .i64 999999999999] from rfl) (Reps.none _ _))))))))); intro v200 w6 ho7 hb hg_ hnew_; clear hg_ hnew_; (first | rw [← Ny199.out] at ho7 | (simp only [Int.reduceToNat] at ho7; rw [← Ny199.out] at ho7)); have n0_ := Aside0.mk (Kd.R_lower ho7 (keep_size (w := w) (g := g) (row := none) (by repeat (first | (with_reducible first | exact HK.out | apply KeepBut.set_ | apply keep_drewN | apply keep_drew | apply keep_alloc) | exact HK.out)))); have n1_ := Aside0.mk (IsS78.below (by repeat (first | (with_reducible first | exact HI0.out | apply IsS78.alloc | apply IsS78.drewN | apply IsS78.drew | apply IsS78.set_1 | apply IsS78.set_2) | exact HI0.out)) hb); have n2_ := Aside0.mk (KeepBut.trans (by repeat (first | (with_reducible first | exact HK.out | apply KeepBut.set_ | apply keep_drewN | apply keep_drew | apply keep_alloc) | exact HK.out)) (KeepBut.of_below hb g none) (.inl rfl)); have n3_ := Aside0.mk (below_step (by repeat (first | (with_reducible first | exact HB.out | apply below_alloc | apply pw_below_drewN | apply below_drew1 | refine below_set ?_ (IsS78.ge HI0.out)) | exact HB.out)) hb); clear HI0; clear HK; clear HB; have HO201 := n0_; have HI0 := n1_; have HK := n2_; have HB := n3_; clear n0_ n1_ n2_ n3_; clear hb ho7; obtain ⟨Ao8, co8, eo8⟩ := Kd.R_slice HO201.out; subst eo8) | ((with_reducible refine gate_callee (f := 115) rfl ?_); refine goesL_ (some 7) rfl rfl Try.func115 (by kernel_rfl) rfl #[.pointer (some ⟨g, 0, none⟩), .slice Ao8 y199.length co8] rfl (by (try simp only [List.map_toArray, List.map_cons, List.map_nil]); first | done | rfl | (simp only [List.length_drop, List.length_take]; rfl)) ?_; (with_reducible refine (spec_l1PickInt.calls g s0_0 t197 t198 _ _ y199 t202 t203 t204 w0 _ ?side1 ?side2 ?side3 ?side4 ?side5 A4.out).mono ?_); (case side1 => repeat (first | (with_reducible first | exact HI0.out | apply IsS78.alloc | apply IsS78.drewN | apply IsS78.drew | apply IsS78.set_1 | apply IsS78.set_2) | exact HI0.out)); (case side2 => repeat (first | (with_reducible first | exact HB.out | apply below_alloc | apply pw_below_drewN | apply below_drew1 | refine below_set ?_ (IsS78.ge HI0.out)) | exact HB.out)); (case side3 => exact cU (Kd.R_reads' HO201.out).2.2); (case side4 => exact (Kd.R_reads' HO201.out).2.1); (case side5 => exact far_slice (IsS78.own_ne HI0.out HO201.out (by decide))); rintro e w9 ⟨rfl, hi, hb, hk⟩; refine ⟨_, rfl, ?_⟩; have n0_ := Aside0.mk (Kd.R_mono (Kd.R_keep (IsS78.apart (show IsS78 w0 _ g s0_0 t197 t198 from by repeat (first | (with_reducible first | exact HI0.out | apply IsS78.alloc | apply IsS78.drewN | apply IsS78.drew | apply IsS78.set_1 | apply IsS78.set_2) | exact HI0.out)) (RU HO201.out) (by decide)) hk (fun _ h => h.2)) (fun _ h => h.1)); have n1_ := Aside0.mk (KeepBut.trans (by repeat (first | (with_reducible first | exact HK.out | apply KeepBut.set_ | apply keep_drewN | apply keep_drew | apply keep_alloc) | exact HK.out)) hk (.inl rfl)); have n2_ := Aside0.mk (hb); have n3_ := Aside0.mk (hi); clear HO201; clear HK; clear HB; clear HI0; have HO201 := n0_; have HK := n1_; have HB := n2_; have HI0 := n3_; clear n0_ n1_ n2_ n3_; (try clear hb); (try clear hb2); (try clear hk); (try clear hi)))
    go_ret
    exact ⟨by first | rfl | (simp [errW_none, errW_some] <;> rfl) | (simp [*, errW_none, errW_some] <;> rfl), by repeat (first | (with_reducible first | exact HI0.out | apply IsS78.alloc | apply IsS78.drewN | apply IsS78.drew | apply IsS78.set_1 | apply IsS78.set_2) | exact HI0.out), by repeat (first | (with_reducible first | exact HB.out | apply below_alloc | apply pw_below_drewN | apply below_drew1 | refine below_set ?_ (IsS78.ge HI0.out)) | exact HB.out), by repeat (first | (with_reducible first | exact HK.out | apply KeepBut.set_ | apply keep_drewN | apply keep_drew | apply keep_alloc) | exact HK.out)⟩
  · replace c3 := Bool.eq_false_iff.mpr c3
    subst c3
    have H1 : ((spec_l1Below.f s0_0 t197 t198 20).bind fun bt205 => (some (wrap64 (bt205.1 - 6), bt205.2.1, bt205.2.2))) = some (r1, r2, r3) := by rw [if_neg (show ¬ (false = true) by decide)] at H; exact H
    clear H
    have H := H1
    clear H1
    replace H := Option.bind_eq_some_iff.mp H
    obtain ⟨⟨t205, t206, t207⟩, A100, H⟩ := H
    replace H : (some (wrap64 (t205 - 6), t206, t207)) = some (r1, r2, r3) := H
    have A10 := Aside0.mk A100
    clear A100
    simp only [Option.some.injEq, Prod.mk.injEq] at H
    obtain ⟨rfl, rfl, rfl⟩ := H
    go_enter Try.func119, Try.ntmps119
    go_wp2_with (first | ((with_reducible refine gate_callee (f := 118) rfl ?_); refine goesL_ (some 4) rfl rfl Try.func118 (by kernel_rfl) rfl #[.pointer (some ⟨g, 0, none⟩), .int .i64 12] rfl (by (try simp only [List.map_toArray, List.map_cons, List.map_nil]); first | done | rfl | (simp only [List.length_drop, List.length_take]; rfl)) ?_; (with_reducible refine (spec_l1Once.calls g s0_0 s0_1 s0_2 12 false t197 t198 w0 _ ?side1 ?side2 A2.out).mono ?_); (case side1 => repeat (first | (with_reducible first | exact HI0.out | apply IsS78.alloc | apply IsS78.drewN | apply IsS78.drew | apply IsS78.set_1 | apply IsS78.set_2) | exact HI0.out)); (case side2 => repeat (first | (with_reducible first | exact HB.out | apply below_alloc | apply pw_below_drewN | apply below_drew1 | refine below_set ?_ (IsS78.ge HI0.out)) | exact HB.out)); rintro e w11 ⟨rfl, hi, hb, hk⟩; refine ⟨_, rfl, ?_⟩; have n0_ := Aside0.mk (KeepBut.trans (by repeat (first | (with_reducible first | exact HK.out | apply KeepBut.set_ | apply keep_drewN | apply keep_drew | apply keep_alloc) | exact HK.out)) hk (.inl rfl)); have n1_ := Aside0.mk (hb); have n2_ := Aside0.mk (hi); clear HK; clear HB; clear HI0; have HK := n0_; have HB := n1_; have HI0 := n2_; clear n0_ n1_ n2_; (try clear hb); (try clear hb2); (try clear hk); (try clear hi)) | ((with_reducible refine gate_callee (f := 97) rfl ?_); refine goesL_ (some 9) rfl rfl Try.func97 (by kernel_rfl) rfl #[.pointer (some ⟨g, 0, none⟩), .int .i64 20] rfl (by (try simp only [List.map_toArray, List.map_cons, List.map_nil]); first | done | rfl | (simp only [List.length_drop, List.length_take]; rfl)) ?_; (with_reducible refine (spec_l1Below.calls g s0_0 t197 t198 20 t205 t206 t207 w0 _ ?side1 ?side2 A10.out).mono ?_); (case side1 => repeat (first | (with_reducible first | exact HI0.out | apply IsS78.alloc | apply IsS78.drewN | apply IsS78.drew | apply IsS78.set_1 | apply IsS78.set_2) | exact HI0.out)); (case side2 => repeat (first | (with_reducible first | exact HB.out | apply below_alloc | apply pw_below_drewN | apply below_drew1 | refine below_set ?_ (IsS78.ge HI0.out)) | exact HB.out)); rintro e w12 ⟨rfl, hi, hb, hk⟩; refine ⟨_, rfl, ?_⟩; have n0_ := Aside0.mk (KeepBut.trans (by repeat (first | (with_reducible first | exact HK.out | apply KeepBut.set_ | apply keep_drewN | apply keep_drew | apply keep_alloc) | exact HK.out)) hk (.inl rfl)); have n1_ := Aside0.mk (hb); have n2_ := Aside0.mk (hi); clear HK; clear HB; clear HI0; have HK := n0_; have HB := n1_; have HI0 := n2_; clear n0_ n1_ n2_; (try clear hb); (try clear hb2); (try clear hk); (try clear hi)))
    go_ret
    exact ⟨by first | rfl | (simp [errW_none, errW_some] <;> rfl) | (simp [*, errW_none, errW_some] <;> rfl), by repeat (first | (with_reducible first | exact HI0.out | apply IsS78.alloc | apply IsS78.drewN | apply IsS78.drew | apply IsS78.set_1 | apply IsS78.set_2) | exact HI0.out), by repeat (first | (with_reducible first | exact HB.out | apply below_alloc | apply pw_below_drewN | apply below_drew1 | refine below_set ?_ (IsS78.ge HI0.out)) | exact HB.out), by repeat (first | (with_reducible first | exact HK.out | apply KeepBut.set_ | apply keep_drewN | apply keep_drew | apply keep_alloc) | exact HK.out)⟩

/-! ### spec_l3Fill: function 117 -/
def spec_l3Fill.l0 : Nat → List Int → Int → List Int → Int → Int → List Int → List Int → Option (List Int × List Int × Int × Int)
  | 0, _, _, _, _, _, _, _ => none
  | k + 1, x1, x6, x1000, x1001, x1002, x216000, x216001 => (spec_SizeOf.f k x1).bind fun t216 => (if x6 < t216 then ((spec_l1DrawNum.f x1000 x1001 x1002).bind fun bt217 => (if x216001.length < 17592186044416 then (spec_l3Fill.l0 k x1 (wrap64 (x6 + 1)) x1000 bt217.2.1 bt217.2.2 x216000 (x216001 ++ [bt217.1])) else (none))) else (some (x216000, x216001, x1001, x1002)))
def spec_l3Fill.f (k : Nat) (s0_0 : List Int) (s0_1 : Int) (s0_2 : Int) (l1 : List Int) : Option (List Int × List Int × Int × Int) := (some (([] : List Int) : List Int)).bind fun y209 => (if y209.length + l1.length < 17592186044416 then (spec_l3Fill.l0 k l1 0 s0_0 s0_1 s0_2 (y209 ++ l1) ([] : List Int)) else (none))
theorem spec_l3Fill.mono_l : ∀ k, (∀ y0 y1 y2 y3 y4 y5 y6, LeO (spec_l3Fill.l0 k y0 y1 y2 y3 y4 y5 y6) (spec_l3Fill.l0 (k + 1) y0 y1 y2 y3 y4 y5 y6))
  | 0 => fun _ _ _ _ _ _ _ r h => by simp [spec_l3Fill.l0] at h
  | k + 1 => by
    have ih0 := spec_l3Fill.mono_l k
    · intro y0 y1 y2 y3 y4 y5 y6
      unfold spec_l3Fill.l0
      repeat' first
      | (with_reducible exact ih0 _ _ _ _ _ _ _)
      | (with_reducible exact spec_SizeOf.mono _ _)
      | (with_reducible exact LeO.refl _)
      | (with_reducible exact LeO.none _)
      | (with_reducible refine LeO.ite ?_ ?_)
      | (with_reducible refine LeO.bind ?_ (fun _ => ?_))
      | exact ih0 _ _ _ _ _ _ _
      | exact spec_SizeOf.mono _ _
      | exact LeO.none _
      | refine LeO.ite ?_ ?_
      | refine LeO.bind ?_ (fun _ => ?_)
theorem spec_l3Fill.mono : ∀ a0 a1 a2 a3 k, LeO (spec_l3Fill.f k a0 a1 a2 a3) (spec_l3Fill.f (k + 1) a0 a1 a2 a3) := by
  intro a0 a1 a2 a3 k
  have ih0 := spec_l3Fill.mono_l k
  unfold spec_l3Fill.f
  repeat' first
      | (with_reducible exact ih0 _ _ _ _ _ _ _)
      | (with_reducible exact spec_SizeOf.mono _ _)
      | (with_reducible exact LeO.refl _)
      | (with_reducible exact LeO.none _)
      | (with_reducible refine LeO.ite ?_ ?_)
      | (with_reducible refine LeO.bind ?_ (fun _ => ?_))
      | exact ih0 _ _ _ _ _ _ _
      | exact spec_SizeOf.mono _ _
      | exact LeO.none _
      | refine LeO.ite ?_ ?_
      | refine LeO.bind ?_ (fun _ => ?_)
def spec_l3Fill.T5 : Bool × List (List Nat × List Nat) := (true, [([], []), ([0], [0]), ([], []), ([2], [2]), ([3], [3]), ([1, 4, 3], [1, 4]), ([0, 1, 2, 3, 4, 5], []), ([6, 5, 5, 0, 1, 2, 3, 4, 5], [5, 6])])
def spec_l3Fill.B5 : List Nat := [0, 1, 0, 4, 12, 31, 63, 127]
theorem spec_l3Fill.tab5 : rtab .any (opsOf Try.f117 5) = spec_l3Fill.T5 := by kernel_rfl
theorem spec_l3Fill.bits5 : waitsOk spec_l3Fill.T5.2 spec_l3Fill.B5 = true := by kernel_rfl
set_option maxHeartbeats 8000000 in
set_option maxRecDepth 100000 in
theorem spec_l3Fill.calls (k : Nat) (g : Nat) (s0_0 : List Int) (s0_1 : Int) (s0_2 : Int) (A1 : Option Addr) (c1 : Nat) (l1 : List Int) (r1 : List Int) (r2 : List Int) (r3 : Int) (r4 : Int) (w0 w : World) (hI : IsS78 w0 w g s0_0 s0_1 s0_2) (hB : Below w0.heap.size w0 w) (hr1 : Kd.C (Kd.int .i64) w A1 l1.length l1) (hc1 : l1.length ≤ c1) (hf1 : ∀ ad, A1 = some ad → 0 < l1.length → ad.block ≠ g) (h : spec_l3Fill.f k s0_0 s0_1 s0_2 l1 = some (r1, r2, r3, r4)) :
    Calls Try.prog 117 #[.pointer (some ⟨g, 0, none⟩), .slice A1 l1.length c1] w fun e w' => ∃ v0_ v1_ : Value, e = .returned (.agg #[v0_, v1_]) ∧ Kd.R (Kd.int .i64) 3 w' w.heap.size (fun k_ => some k_ ≠ (v1_ : Value).ownBlock) v0_ r1 ∧ Kd.R (Kd.int .i64) 3 w' w.heap.size (fun k_ => some k_ ≠ (v0_ : Value).ownBlock) v1_ r2 ∧ IsS78 w0 w' g s0_0 r3 r4 ∧ Below w0.heap.size w0 w' ∧ KeepBut w w' g none := by
  have hu26 := Try.underlying26
  have HR1 := Aside0.mk hr1
  have HC1 := Aside0.mk hc1
  clear hr1 hc1
  have HI0 := Aside0.mk hI
  have HK := Aside0.mk (KeepBut.refl w g none)
  have HL := Aside0.mk hB.size
  clear hI
  have HW0 := Aside0.mk hB.size
  have HB := Aside0.mk hB
  clear hB
  have H : ((some (([] : List Int) : List Int)).bind fun y209 => (if y209.length + l1.length < 17592186044416 then (spec_l3Fill.l0 k l1 0 s0_0 s0_1 s0_2 (y209 ++ l1) ([] : List Int)) else (none))) = some (r1, r2, r3, r4) := h
  clear h
  obtain ⟨y209, hy209⟩ : ∃ y_ : List Int, y_ = (([] : List Int)) := ⟨_, rfl⟩
  replace H : (if y209.length + l1.length < 17592186044416 then (spec_l3Fill.l0 k l1 0 s0_0 s0_1 s0_2 (y209 ++ l1) ([] : List Int)) else (none)) = some (r1, r2, r3, r4) := by first | (rw [hy209]; with_reducible exact H) | (have H2_ := (Option.bind_some _ _).symm.trans H; rw [hy209]; with_reducible exact H2_) | (have H2_ := (Option.bind_some _ _).symm.trans H; with_reducible exact H2_) | with_reducible exact H | (rw [hy209]; exact H) | exact H
  have Ny209 := Aside0.mk hy209
  clear hy209
  by_cases c3 : y209.length + l1.length < 17592186044416
  · rw [if_pos c3] at H
    have LMc3 := Aside0.mk c3
    clear c3
    obtain ⟨y212, hy212⟩ : ∃ y_ : List Int, y_ = (y209 ++ l1) := ⟨_, rfl⟩
    replace H : (spec_l3Fill.l0 k l1 0 s0_0 s0_1 s0_2 y212 ([] : List Int)) = some (r1, r2, r3, r4) := by first | (rw [hy212]; with_reducible exact H) | (have H2_ := (Option.bind_some _ _).symm.trans H; rw [hy212]; with_reducible exact H2_) | (have H2_ := (Option.bind_some _ _).symm.trans H; with_reducible exact H2_) | with_reducible exact H | (rw [hy212]; exact H) | exact H
    have Ny212 := Aside0.mk hy212
    clear hy212
    have H' := Aside0.mk H
    clear H
    go_enter Try.func117, Try.ntmps117
    go_wp2_with (first | ((with_reducible refine gate_dst (N := 4) rfl ?_); refine box_event ?hg (N := 4) ?hd (cs := #[.slice none 0 0, .slice none 0 0]) (t := 26) ?hr ?_; (case hd => rfl); (case hg => rfl); (case hr => first | (go_simp; done) | (go_simp; rfl)); intro gb208 hg w4 hbox hb; have n0_ := Aside0.mk (IsS78.below (by repeat (first | (with_reducible first | exact HI0.out | apply IsS78.alloc | apply IsS78.drewN | apply IsS78.drew | apply IsS78.set_1 | apply IsS78.set_2) | exact HI0.out)) hb); have n1_ := Aside0.mk (KeepBut.trans (by repeat (first | (with_reducible first | exact HK.out | apply KeepBut.set_ | apply keep_drewN | apply keep_drew | apply keep_alloc) | exact HK.out)) (KeepBut.of_below hb g none) (.inl rfl)); have n2_ := Aside0.mk (below_step (by repeat (first | (with_reducible first | exact HB.out | apply below_alloc | apply pw_below_drewN | apply below_drew1 | refine below_set ?_ (IsS78.ge HI0.out)) | exact HB.out)) hb); have n3_ := Aside0.mk (hbox); have n4_ := Aside0.mk ((by rw [hg]; exact (keep_size (w := w) (g := g) (row := none) (by repeat (first | (with_reducible first | exact HK.out | apply KeepBut.set_ | apply keep_drewN | apply keep_drew | apply keep_alloc) | exact HK.out))) : w.heap.size ≤ gb208)); have n5_ := Aside0.mk ((Nat.le_trans HW0.out (by rw [hg]; exact (keep_size (w := w) (g := g) (row := none) (by repeat (first | (with_reducible first | exact HK.out | apply KeepBut.set_ | apply keep_drewN | apply keep_drew | apply keep_alloc) | exact HK.out))) : w.heap.size ≤ gb208) : w0.heap.size ≤ gb208)); have n6_ := Aside0.mk ((by rw [hg]; exact Nat.ne_of_lt (IsS78.lt (show IsS78 w0 _ g s0_0 s0_1 s0_2 from by repeat (first | (with_reducible first | exact HI0.out | apply IsS78.alloc | apply IsS78.drewN | apply IsS78.drew | apply IsS78.set_1 | apply IsS78.set_2) | exact HI0.out))) : g ≠ gb208)); have n7_ := Aside0.mk ((by rw [hg]; exact Nat.ne_of_gt (IsS78.lt (show IsS78 w0 _ g s0_0 s0_1 s0_2 from by repeat (first | (with_reducible first | exact HI0.out | apply IsS78.alloc | apply IsS78.drewN | apply IsS78.drew | apply IsS78.set_1 | apply IsS78.set_2) | exact HI0.out))) : gb208 ≠ g)); clear HI0; clear HK; clear HB; have HI0 := n0_; have HK := n1_; have HB := n2_; have BK208 := n3_; have GW208 := n4_; have GE208 := n5_; have NB0_208 := n6_; have NB208_0 := n7_; clear n0_ n1_ n2_ n3_ n4_ n5_ n6_ n7_; clear hb hbox hg) | ((with_reducible refine gate_dst (N := 7) rfl ?_); refine Kd.R_lit (Kd.int .i64) _ 3 ?hg (N := 7) ?hd (xs := ([] : List Int)) (inner := []) (ok := fun _ => True) (okp := fun _ => True) ?hr ?hp (fun _ hk => hk) trivial (Below.refl _ _) (Nat.le_refl _) (by simp) ?_; (case hd => rfl); (case hg => rfl); (case hr => first | (go_simp; done) | (go_simp; rfl)); (case hp => exact (Reps.none _ _)); intro v210 w5 ho6 hb hg_ hnew_; clear hg_ hnew_; (first | rw [← Ny209.out] at ho6 | (simp only [Int.reduceToNat] at ho6; rw [← Ny209.out] at ho6)); have n0_ := Aside0.mk (Kd.R_lower ho6 (keep_size (w := w) (g := g) (row := none) (by repeat (first | (with_reducible first | exact HK.out | apply KeepBut.set_ | apply keep_drewN | apply keep_drew | apply keep_alloc | refine keep_far ?_ GW208.out _) | exact HK.out)))); have n1_ := Aside0.mk (IsS78.below (by repeat (first | (with_reducible first | exact HI0.out | apply IsS78.alloc | apply IsS78.drewN | apply IsS78.drew | apply IsS78.set_1 | apply IsS78.set_2 | refine IsS78.far ?_ NB0_208.out _) | exact HI0.out)) hb); have n2_ := Aside0.mk (blk_below (kU BK208.out) hb); have n3_ := Aside0.mk (KeepBut.trans (by repeat (first | (with_reducible first | exact HK.out | apply KeepBut.set_ | apply keep_drewN | apply keep_drew | apply keep_alloc | refine keep_far ?_ GW208.out _) | exact HK.out)) (KeepBut.of_below hb g none) (.inl rfl)); have n4_ := Aside0.mk (below_step (by repeat (first | (with_reducible first | exact HB.out | apply below_alloc | apply pw_below_drewN | apply below_drew1 | refine below_set ?_ (IsS78.ge HI0.out) | refine below_set ?_ GE208.out) | exact HB.out)) hb); clear HI0; clear BK208; clear HK; clear HB; have HO211 := n0_; have HI0 := n1_; have BK208 := n2_; have HK := n3_; have HB := n4_; clear n0_ n1_ n2_ n3_ n4_; clear hb ho6) | ((with_reducible refine gate_builtin (b := .append) (xs := #[.tmp 7, .tmp 8]) rfl ?_); at_builtin; refine Kd.R_append_rows (Kd.int .i64) w.heap.size rfl (.tmp 7) (.tmp 8) 22 3 (.int .i64 0) 8 rfl Try.underlying22 info3 rfl (by decide) (by omega) v210 y209 l1 _ _ _ (fun _ => True) (fun _ => False) rfl rfl ?aO ?aR (fun _ _ h => h) (fun _ h => h.elim) ?aF (Below.refl _ _) ?aS ?aL ?_; (case aR => exact Kd.C_keep 0 HR1.out (by repeat (first | (with_reducible first | exact HK.out | apply KeepBut.set_ | apply keep_drewN | apply keep_drew | apply keep_alloc | refine keep_far ?_ GW208.out _) | exact HK.out)) hf1); (case aF => exact (fun _ _ => trivial)); (case aO => exact (RU HO211.out)); (case aS => exact (keep_size (w := w) (g := g) (row := none) (by repeat (first | (with_reducible first | exact HK.out | apply KeepBut.set_ | apply keep_drewN | apply keep_drew | apply keep_alloc | refine keep_far ?_ GW208.out _) | exact HK.out)))); (case aL => have := LMc3.out; omega); intro v213 w7 ho hb hg hat; rw [← Ny212.out] at ho; have n0_ := Aside0.mk (IsS78.grown (by repeat (first | (with_reducible first | exact HI0.out | apply IsS78.alloc | apply IsS78.drewN | apply IsS78.drew | apply IsS78.set_1 | apply IsS78.set_2 | refine IsS78.far ?_ NB0_208.out _) | exact HI0.out)) hg (IsS78.own_ne HI0.out HO211.out (by decide))); have n1_ := Aside0.mk (blk_grown (kU BK208.out) hg (Kd.R_ne HO211.out BK208.out (by decide))); have n2_ := Aside0.mk (below_weaken (by repeat (first | (with_reducible first | exact HB.out | apply below_alloc | apply pw_below_drewN | apply below_drew1 | refine below_set ?_ (IsS78.ge HI0.out) | refine below_set ?_ GE208.out) | exact HB.out)) HL.out hb); have n3_ := Aside0.mk (KeepBut.trans (by repeat (first | (with_reducible first | exact HK.out | apply KeepBut.set_ | apply keep_drewN | apply keep_drew | apply keep_alloc | refine keep_far ?_ GW208.out _) | exact HK.out)) (KeepBut.of_grown hg g) (Kd.R_base2 HO211.out)); have n4_ := Aside0.mk (ho); clear HI0; clear BK208; clear HB; clear HK; clear HO211; have HI0 := n0_; have BK208 := n1_; have HB := n2_; have HK := n3_; have HO214 := n4_; clear n0_ n1_ n2_ n3_ n4_; clear ho hb hg hat; obtain ⟨Ao8, co8, eo8⟩ := Kd.R_slice HO214.out; subst eo8) | ((with_reducible refine gate_dst (N := 5) rfl ?_); refine box_event ?hg (N := 5) ?hd (cs := #[.slice none 0 0, .slice none 0 0]) (t := 26) ?hr ?_; (case hd => rfl); (case hg => rfl); (case hr => first | (go_simp; done) | (go_simp; rfl)); intro gb215 hg w9 hbox hb; have n0_ := Aside0.mk (Kd.R_below (RU HO214.out) hb); have n1_ := Aside0.mk (IsS78.below (by repeat (first | (with_reducible first | exact HI0.out | apply IsS78.alloc | apply IsS78.drewN | apply IsS78.drew | apply IsS78.set_1 | apply IsS78.set_2 | refine IsS78.far ?_ NB0_208.out _) | exact HI0.out)) hb); have n2_ := Aside0.mk (blk_below (kU BK208.out) hb); have n3_ := Aside0.mk (KeepBut.trans (by repeat (first | (with_reducible first | exact HK.out | apply KeepBut.set_ | apply keep_drewN | apply keep_drew | apply keep_alloc | refine keep_far ?_ GW208.out _) | exact HK.out)) (KeepBut.of_below hb g none) (.inl rfl)); have n4_ := Aside0.mk (below_step (by repeat (first | (with_reducible first | exact HB.out | apply below_alloc | apply pw_below_drewN | apply below_drew1 | refine below_set ?_ (IsS78.ge HI0.out) | refine below_set ?_ GE208.out) | exact HB.out)) hb); have n5_ := Aside0.mk (hbox); have n6_ := Aside0.mk ((by rw [hg]; exact (keep_size (w := w) (g := g) (row := none) (by repeat (first | (with_reducible first | exact HK.out | apply KeepBut.set_ | apply keep_drewN | apply keep_drew | apply keep_alloc | refine keep_far ?_ GW208.out _) | exact HK.out))) : w.heap.size ≤ gb215)); have n7_ := Aside0.mk ((Nat.le_trans HW0.out (by rw [hg]; exact (keep_size (w := w) (g := g) (row := none) (by repeat (first | (with_reducible first | exact HK.out | apply KeepBut.set_ | apply keep_drewN | apply keep_drew | apply keep_alloc | refine keep_far ?_ GW208.out _) | exact HK.out))) : w.heap.size ≤ gb215) : w0.heap.size ≤ gb215)); have n8_ := Aside0.mk ((by rw [hg]; exact Nat.ne_of_lt (blk_lt (kU BK208.out)) : gb208 ≠ gb215)); have n9_ := Aside0.mk ((by rw [hg]; exact Nat.ne_of_gt (blk_lt (kU BK208.out)) : gb215 ≠ gb208)); have n10_ := Aside0.mk ((by rw [hg]; exact Nat.ne_of_lt (IsS78.lt (show IsS78 w0 _ g s0_0 s0_1 s0_2 from by repeat (first | (with_reducible first | exact HI0.out | apply IsS78.alloc | apply IsS78.drewN | apply IsS78.drew | apply IsS78.set_1 | apply IsS78.set_2 | refine IsS78.far ?_ NB0_208.out _) | exact HI0.out))) : g ≠ gb215)); have n11_ := Aside0.mk ((by rw [hg]; exact Nat.ne_of_gt (IsS78.lt (show IsS78 w0 _ g s0_0 s0_1 s0_2 from by repeat (first | (with_reducible first | exact HI0.out | apply IsS78.alloc | apply IsS78.drewN | apply IsS78.drew | apply IsS78.set_1 | apply IsS78.set_2 | refine IsS78.far ?_ NB0_208.out _) | exact HI0.out))) : gb215 ≠ g)); clear HO214; clear HI0; clear BK208; clear HK; clear HB; have HO214 := n0_; have HI0 := n1_; have BK208 := n2_; have HK := n3_; have HB := n4_; have BK215 := n5_; have GW215 := n6_; have GE215 := n7_; have NB208_215 := n8_; have NB215_208 := n9_; have NB0_215 := n10_; have NB215_0 := n11_; clear n0_ n1_ n2_ n3_ n4_ n5_ n6_ n7_ n8_ n9_ n10_ n11_; clear hb hbox hg; have hnb10 := NB215_208.out; have hnc10 := NB208_215.out; have hnb11 := NB215_0.out; have hnc11 := NB0_215.out; have hcz12_0 : w9.cell? ⟨gb215, 0, none⟩ = some (.slice none 0 0) := (blk_cell BK215.out 0).trans rfl; have hcz12_1 : w9.cell? ⟨gb215, 1, none⟩ = some (.slice none 0 0) := (blk_cell BK215.out 1).trans rfl; have hfz12_0 := blk_frozen BK215.out 0; have hfz12_1 := blk_frozen BK215.out 1))
    go_loopg [6] k (fun kq v6 w' => ∃ (x6_1 : Int) (x1001_1 : Int) (x1002_1 : Int) (x216001_1 : List Int) (u216001 : Value), v6 = .int .i64 x6_1 ∧ Aside0 (spec_l3Fill.l0 kq l1 x6_1 s0_0 x1001_1 x1002_1 y212 x216001_1 = some (r1, r2, r3, r4)) ∧ Aside0 (kq ≤ k) ∧ Aside0 (Kd.R (Kd.int .i64) 3 w' w.heap.size (fun k_ => some k_ ≠ (u216001 : Value).ownBlock) (.slice Ao8 y212.length co8) y212) ∧ Aside0 (Kd.R (Kd.int .i64) 3 w' w.heap.size (fun k_ => some k_ ≠ ((.slice Ao8 y212.length co8) : Value).ownBlock) u216001 x216001_1) ∧ Aside0 (w'.heap[gb208]? = some (.cells #[(.slice none 0 0), (.slice none 0 0)] 26 (0, 0))) ∧ Aside0 (w'.heap[gb215]? = some (.cells #[(.slice Ao8 y212.length co8), u216001] 26 (0, 0))) ∧ Aside0 (IsS78 w0 w' g s0_0 x1001_1 x1002_1) ∧ Aside0 (KeepBut w w' g none) ∧ Aside0 (Below w0.heap.size w0 w'))
    case atStart => exact ⟨(0), (s0_1), (s0_2), (([] : List Int)), (.slice none 0 0), (by first | rfl | (simp; done) | (simp [*]; done)), H', ⟨Nat.le_refl _⟩, ⟨by (with_reducible repeat (first | apply Kd.R_alloc | apply Kd.R_drewN | apply Kd.R_drew)); exact Kd.R_mono (Kd.R_far (p := ⟨gb215, 1, none⟩) (Kd.R_far (p := ⟨gb215, 0, none⟩) (Kd.R_types HO214.out BK215.out (by decide)) (fun _ hk => hk.2) (.slice Ao8 y212.length co8)) (fun _ hk => hk.2) (.slice none 0 0)) (fun _ hk => (by simp [Value.ownBlock]))⟩, ⟨by first | exact Kd.R_nil _ _ _ _ _ | exact Kd.N_nil _ _ _ _ _ | exact Kd.V_nil _ _ _ _ _ | exact Kd.Q_nil _ _ _ _ _ | exact Kd.S_nil _ _ _ _ _⟩, ⟨by (with_reducible repeat (first | refine blk_drewN ?_ _ | refine blk_drew ?_ | refine blk_alloc ?_ _)); refine blk_far ?_ NB208_215.out _; (with_reducible repeat (first | refine blk_drewN ?_ _ | refine blk_drew ?_ | refine blk_alloc ?_ _)); refine blk_far ?_ NB208_215.out _; (with_reducible repeat (first | refine blk_drewN ?_ _ | refine blk_drew ?_ | refine blk_alloc ?_ _)); exact BK208.out⟩, ⟨by (with_reducible repeat (first | refine blk_drewN ?_ _ | refine blk_drew ?_ | refine blk_alloc ?_ _)); refine blk_put (cs := #[.slice Ao8 y212.length co8, .slice none 0 0]) ?_ 1 _ rfl; (with_reducible repeat (first | refine blk_drewN ?_ _ | refine blk_drew ?_ | refine blk_alloc ?_ _)); refine blk_put (cs := #[.slice none 0 0, .slice none 0 0]) ?_ 0 _ rfl; (with_reducible repeat (first | refine blk_drewN ?_ _ | refine blk_drew ?_ | refine blk_alloc ?_ _)); exact BK215.out⟩, ⟨by repeat (first | (with_reducible first | exact HI0.out | apply IsS78.alloc | apply IsS78.drewN | apply IsS78.drew | apply IsS78.set_1 | apply IsS78.set_2 | refine IsS78.far ?_ NB0_208.out _ | refine IsS78.far ?_ NB0_215.out _) | exact HI0.out)⟩, ⟨by repeat (first | (with_reducible first | exact HK.out | apply KeepBut.set_ | apply keep_drewN | apply keep_drew | apply keep_alloc | refine keep_far ?_ GW208.out _ | refine keep_far ?_ GW215.out _) | exact HK.out)⟩, ⟨by repeat (first | (with_reducible first | exact HB.out | apply below_alloc | apply pw_below_drewN | apply below_drew1 | refine below_set ?_ (IsS78.ge HI0.out) | refine below_set ?_ GE208.out | refine below_set ?_ GE215.out) | exact HB.out)⟩⟩
    case round =>
      clear H'
      try clear c1
      try clear p2
      try clear c3
      try clear c10
      try clear c11
      try clear hcz12_0
      try clear hcz12_1
      try clear hfz12_0
      try clear hfz12_1
      obtain ⟨x6_1, x1001_1, x1002_1, x216001_1, u216001, rfl, HA, HK1, HO_216000, HO_216001, BK208, BK215, HI0, HK, HB⟩ := hrel
      cases gk with
      | zero => exact absurd HA.out (by simp [spec_l3Fill.l0])
      | succ k1 =>
        have H := HA.out
        clear HA
        simp only [spec_l3Fill.l0] at H
        replace H := Option.bind_eq_some_iff.mp H
        obtain ⟨t216, A130, H⟩ := H
        replace H : (if x6_1 < t216 then ((spec_l1DrawNum.f s0_0 x1001_1 x1002_1).bind fun bt217 => (if x216001_1.length < 17592186044416 then (spec_l3Fill.l0 k1 l1 (wrap64 (x6_1 + 1)) s0_0 bt217.2.1 bt217.2.2 y212 (x216001_1 ++ [bt217.1])) else (none))) else (some (y212, x216001_1, x1001_1, x1002_1))) = some (r1, r2, r3, r4) := H
        have A13 := Aside0.mk A130
        clear A130
        by_cases c14 : x6_1 < t216
        · rw [if_pos c14] at H
          have c14b0 : decide (x6_1 < t216) = true := decide_eq_true c14
          clear c14
          replace H := Option.bind_eq_some_iff.mp H
          obtain ⟨⟨t217, t218, t219⟩, A150, H⟩ := H
          replace H : (if x216001_1.length < 17592186044416 then (spec_l3Fill.l0 k1 l1 (wrap64 (x6_1 + 1)) s0_0 t218 t219 y212 (x216001_1 ++ [t217])) else (none)) = some (r1, r2, r3, r4) := H
          have A15 := Aside0.mk A150
          clear A150
          by_cases c16 : x216001_1.length < 17592186044416
          · rw [if_pos c16] at H
            have LMc16 := Aside0.mk c16
            clear c16
            obtain ⟨y220, hy220⟩ : ∃ y_ : List Int, y_ = (x216001_1 ++ [t217]) := ⟨_, rfl⟩
            replace H : (spec_l3Fill.l0 k1 l1 (wrap64 (x6_1 + 1)) s0_0 t218 t219 y212 y220) = some (r1, r2, r3, r4) := by first | (rw [hy220]; with_reducible exact H) | (have H2_ := (Option.bind_some _ _).symm.trans H; rw [hy220]; with_reducible exact H2_) | (have H2_ := (Option.bind_some _ _).symm.trans H; with_reducible exact H2_) | with_reducible exact H | (rw [hy220]; exact H) | exact H
            have Ny220 := Aside0.mk hy220
            clear hy220
            have H' := Aside0.mk H
            clear H
            try go_wp2_with (first | ((with_reducible refine gate_callee (f := 79) rfl ?_); refine goesL_ (some 13) rfl rfl Try.func79 (by kernel_rfl) rfl #[.slice A1 l1.length c1] rfl (by (try simp only [List.map_toArray, List.map_cons, List.map_nil]); first | done | rfl | (simp only [List.length_drop, List.length_take]; rfl)) ?_; (with_reducible refine (spec_SizeOf.calls k1 _ _ l1 t216 _ ?side1 ?side2 A13.out).mono ?_); (case side1 => exact Kd.C_keep 0 HR1.out (by repeat (first | (with_reducible first | exact HK.out | apply KeepBut.set_ | apply keep_drewN | apply keep_drew | apply keep_alloc | refine keep_far ?_ GW208.out _ | refine keep_far ?_ GW215.out _) | exact HK.out)) hf1); (case side2 => exact HC1.out); rintro e w' ⟨rfl, ⟨nd, rfl⟩⟩; refine ⟨_, rfl, ?_⟩; (try (rw [drewN_self wr]; generalize hq_ : World.drewN wr _ = wr; have n0_ : Aside0 (Kd.R (Kd.int .i64) 3 wr w.heap.size (fun k_ => some k_ ≠ (u216001 : Value).ownBlock) (.slice Ao8 y212.length co8) y212) := ⟨by rw [← hq_]; exact (RU HO_216000.out)⟩; have n1_ : Aside0 (Kd.R (Kd.int .i64) 3 wr w.heap.size (fun k_ => some k_ ≠ (.slice Ao8 y212.length co8 : Value).ownBlock) u216001 x216001_1) := ⟨by rw [← hq_]; exact (RU HO_216001.out)⟩; have n2_ : Aside0 (wr.heap[gb208]? = some (.cells #[.slice none 0 0, .slice none 0 0] 26 (0, 0))) := ⟨by rw [← hq_]; exact (kU BK208.out)⟩; have n3_ : Aside0 (wr.heap[gb215]? = some (.cells #[.slice Ao8 y212.length co8, u216001] 26 (0, 0))) := ⟨by rw [← hq_]; exact (kU BK215.out)⟩; have n4_ : Aside0 (IsS78 w0 wr g s0_0 x1001_1 x1002_1) := ⟨by rw [← hq_]; exact (by repeat (first | (with_reducible first | exact HI0.out | apply IsS78.alloc | apply IsS78.drewN | apply IsS78.drew | apply IsS78.set_1 | apply IsS78.set_2 | refine IsS78.far ?_ NB0_208.out _ | refine IsS78.far ?_ NB0_215.out _) | exact HI0.out))⟩; have n5_ : Aside0 (KeepBut w wr g none) := ⟨by rw [← hq_]; exact (by repeat (first | (with_reducible first | exact HK.out | apply KeepBut.set_ | apply keep_drewN | apply keep_drew | apply keep_alloc | refine keep_far ?_ GW208.out _ | refine keep_far ?_ GW215.out _) | exact HK.out))⟩; have n6_ : Aside0 (Below w0.heap.size w0 wr) := ⟨by rw [← hq_]; exact (by repeat (first | (with_reducible first | exact HB.out | apply below_alloc | apply pw_below_drewN | apply below_drew1 | refine below_set ?_ (IsS78.ge HI0.out) | refine below_set ?_ GE208.out | refine below_set ?_ GE215.out) | exact HB.out))⟩; clear HO_216000 HO_216001 BK208 BK215 HI0 HK HB hq_; have HO_216000 := n0_; have HO_216001 := n1_; have BK208 := n2_; have BK215 := n3_; have HI0 := n4_; have HK := n5_; have HB := n6_; clear n0_ n1_ n2_ n3_ n4_ n5_ n6_))))
            have n0_ := Aside0.mk (Kd.R_drew HO_216000.out)
            have n1_ := Aside0.mk (Kd.R_drew HO_216001.out)
            have n2_ := Aside0.mk (blk_drew BK208.out)
            have n3_ := Aside0.mk (blk_drew BK215.out)
            have n4_ := Aside0.mk (IsS78.drew HI0.out)
            have n5_ := Aside0.mk (keep_drew HK.out)
            have n6_ := Aside0.mk (below_drew1 HB.out)
            clear HO_216000 HO_216001 BK208 BK215 HI0 HK HB
            have HO_216000 := n0_
            have HO_216001 := n1_
            have BK208 := n2_
            have BK215 := n3_
            have HI0 := n4_
            have HK := n5_
            have HB := n6_
            clear n0_ n1_ n2_ n3_ n4_ n5_ n6_
            refine start_ (n := 8) (S := fun w' => w'.cell? ⟨gb215, 0, none⟩ = some (.slice Ao8 y212.length co8) ∧ w'.cell? ⟨gb215, 1, none⟩ = some (u216001)) (ds := [7]) #[false, false, false, false, false, false, false, false] (by kernel_rfl) rfl rfl ⟨(blk_cell BK215.out 0).trans rfl, (blk_cell BK215.out 1).trans rfl⟩ (fun hHeld => ?_); refine with_tabW spec_l3Fill.tab5 spec_l3Fill.bits5 (fun HT_ HW_ => ?_)
            generalize wr.drew = w17 at HO_216000 HO_216001 BK208 BK215 HI0 HK HB hHeld ⊢
            refine pure_ (i := 0) (N := some 17) (v := ?_) (a' := ?_) #[true, false, false, false, false, false, false, false] rfl rfl (any_of HT_.out (by kernel_rfl)) (fun _ _ _ h => h) (Or.inl ⟨by rfl, ?_⟩) ?_ ?_
            rotate_left
            · intro w'
              go_simp
              with_reducible rfl
            rotate_left
            · simp only [Act.put, List.setIfInBounds_toArray, List.set_cons_zero, List.set_cons_succ, i64_w, i32_w]
              rfl
            refine pure_ (i := 2) (N := some 19) (v := ?_) (a' := ?_) #[true, false, true, false, false, false, false, false] rfl rfl (any_of HT_.out (by kernel_rfl)) (fun _ _ _ h => h) (Or.inl ⟨by rfl, ?_⟩) ?_ ?_
            rotate_left
            · intro w'
              go_simp
              with_reducible rfl
            rotate_left
            · simp only [Act.put, List.setIfInBounds_toArray, List.set_cons_zero, List.set_cons_succ, i64_w, i32_w]
              rfl
            refine take_ (i := 1) (N := some 18) (v := ?_) (a' := ?_) #[true, true, true, false, false, false, false, false] rfl rfl (take_ofW HT_.out HW_.out (by kernel_rfl)) (fun _ _ _ h => h) (Or.inl ⟨by rfl, ?_⟩) hHeld ?_ ?_
            rotate_left
            · rintro w' ⟨s0, s1⟩
              go_simp
              with_reducible rfl
            rotate_left
            · simp only [Act.put, List.setIfInBounds_toArray, List.set_cons_zero, List.set_cons_succ, i64_w, i32_w]
              rfl
            refine one_ (i := 3) (N := some 20) #[true, true, true, true, false, false, false, false] rfl rfl (one_of HT_.out (by kernel_rfl)) (by decide) (fun K hK => ?_)
            refine goes_ Try.func119 (by kernel_rfl) rfl #[.pointer (some ⟨g, 0, none⟩)] (by rfl) rfl rfl (by (try simp only [List.map_toArray, List.map_cons, List.map_nil]); first | done | rfl | (simp only [List.length_drop, List.length_take]; rfl)) ?_
            with_reducible refine (spec_l1DrawNum.calls g s0_0 x1001_1 x1002_1 t217 t218 t219 w0 _ ?side1 ?side2 A15.out).mono ?_
            (case side1 => repeat (first | (with_reducible first | exact HI0.out | apply IsS78.alloc | apply IsS78.drewN | apply IsS78.drew | apply IsS78.set_1 | apply IsS78.set_2 | refine IsS78.far ?_ NB0_208.out _ | refine IsS78.far ?_ NB0_215.out _) | exact HI0.out))
            (case side2 => repeat (first | (with_reducible first | exact HB.out | apply below_alloc | apply pw_below_drewN | apply below_drew1 | refine below_set ?_ (IsS78.ge HI0.out) | refine below_set ?_ GE208.out | refine below_set ?_ GE215.out) | exact HB.out))
            rintro e w18 ⟨rfl, hi, hb, hk⟩
            refine ⟨_, rfl, ?_⟩
            have n0_ := Aside0.mk (Kd.R_mono (Kd.R_keep (IsS78.apart (show IsS78 w0 _ g s0_0 x1001_1 x1002_1 from by repeat (first | (with_reducible first | exact HI0.out | apply IsS78.alloc | apply IsS78.drewN | apply IsS78.drew | apply IsS78.set_1 | apply IsS78.set_2 | refine IsS78.far ?_ NB0_208.out _ | refine IsS78.far ?_ NB0_215.out _) | exact HI0.out)) (RU HO_216000.out) (by decide)) hk (fun _ h => h.2)) (fun _ h => h.1))
            have n1_ := Aside0.mk (Kd.R_mono (Kd.R_keep (IsS78.apart (show IsS78 w0 _ g s0_0 x1001_1 x1002_1 from by repeat (first | (with_reducible first | exact HI0.out | apply IsS78.alloc | apply IsS78.drewN | apply IsS78.drew | apply IsS78.set_1 | apply IsS78.set_2 | refine IsS78.far ?_ NB0_208.out _ | refine IsS78.far ?_ NB0_215.out _) | exact HI0.out)) (RU HO_216001.out) (by decide)) hk (fun _ h => h.2)) (fun _ h => h.1))
            have n2_ := Aside0.mk (KeepBut.blk hk (g' := gb208) (o := .cells #[.slice none 0 0, .slice none 0 0] 26 (0, 0)) (kU BK208.out) NB208_0.out (by simp))
            have n3_ := Aside0.mk (KeepBut.blk hk (g' := gb215) (o := .cells #[.slice Ao8 y212.length co8, u216001] 26 (0, 0)) (kU BK215.out) NB215_0.out (by simp))
            have n4_ := Aside0.mk (KeepBut.trans (by repeat (first | (with_reducible first | exact HK.out | apply KeepBut.set_ | apply keep_drewN | apply keep_drew | apply keep_alloc | refine keep_far ?_ GW208.out _ | refine keep_far ?_ GW215.out _) | exact HK.out)) hk (.inl rfl))
            have n5_ := Aside0.mk (hb)
            have n6_ := Aside0.mk (hi)
            clear HO_216000 HO_216001 BK208 BK215 HK HB HI0
            have HO_216000 := n0_
            have HO_216001 := n1_
            have BK208 := n2_
            have BK215 := n3_
            have HK := n4_
            have HB := n5_
            have HI0 := n6_
            clear n0_ n1_ n2_ n3_ n4_ n5_ n6_
            (try clear hb)
            (try clear hb2)
            (try clear hk)
            (try clear hi)
            refine hK.out _ _ ⟨(blk_cell BK215.out 0).trans rfl, (blk_cell BK215.out 1).trans rfl⟩ (fun hHeld => ?_)
            clear hK K
            refine norm_ (a' := ?_) ?_ ?_
            rotate_left
            · show Act.put _ (some 20) _ = _
              simp only [Act.put, List.setIfInBounds_toArray, List.set_cons_zero, List.set_cons_succ, i64_w, i32_w]
              rfl
            refine one_ (i := 4) (N := some 21) #[true, true, true, true, true, false, false, false] rfl rfl (one_of HT_.out (by kernel_rfl)) (by decide) (fun K hK => ?_)
            refine value_ (w1 := ?_) (v := ?_) (by rfl) rfl ?_ ?_
            rotate_left 2
            · go_simp
              constructor
              · rfl
              · rfl
            refine hK.out _ _ ⟨(blk_cell (blk_alloc BK215.out _) 0).trans rfl, (blk_cell (blk_alloc BK215.out _) 1).trans rfl⟩ (fun hHeld => ?_)
            clear hK K
            refine norm_ (a' := ?_) ?_ ?_
            rotate_left
            · show Act.put _ (some 21) _ = _
              simp only [Act.put, List.setIfInBounds_toArray, List.set_cons_zero, List.set_cons_succ, i64_w, i32_w]
              rfl
            refine one_ (i := 5) (N := some 22) #[true, true, true, true, true, true, false, false] rfl rfl (one_of HT_.out (by kernel_rfl)) (by decide) (fun K hK => ?_)
            refine Kd.R_append_step (Kd.int .i64) w.heap.size (by rfl) (.tmp 18) (.tmp 21) 22 3 (.int .i64 0) 8 rfl Try.underlying22 info3 rfl (by decide) (by omega) u216001 x216001_1 t217 [.int .i64 t217] (fun k_ => some k_ ≠ (.slice Ao8 y212.length co8 : Value).ownBlock) (fun _ => False) rfl rfl ?aP (fun _ hk => hk.elim) ?aF ?aO (Below.refl _ _) ?aS ?aL ?_
            (case aP => exact rfl)
            (case aF => exact (fun k_ hk => Kd.fresh' (Kd.R_lt (RU HO_216000.out)) k_ hk))
            (case aO => exact (RU HO_216001.out))
            (case aS => exact (keep_size (w := w) (g := g) (row := none) (by repeat (first | (with_reducible first | exact HK.out | apply KeepBut.set_ | apply keep_drewN | apply keep_drew | apply keep_alloc | refine keep_far ?_ GW208.out _ | refine keep_far ?_ GW215.out _) | exact HK.out))))
            (case aL => have := LMc16.out; omega)
            intro v221 w19 ho hb hg hat
            rw [← Ny220.out] at ho
            have n0_ := Aside0.mk (Kd.R_after (ok := (fun _ => True)) (by (with_reducible repeat (first | apply Kd.R_alloc | apply Kd.R_drewN | apply Kd.R_drew)); exact Kd.R_mono HO_216000.out (fun _ hk => ⟨trivial, hk⟩)) hg hat)
            have n1_ := Aside0.mk (blk_grown (kU BK208.out) hg (Kd.R_ne HO_216001.out BK208.out (by decide)))
            have n2_ := Aside0.mk (blk_grown (kU BK215.out) hg (Kd.R_ne HO_216001.out BK215.out (by decide)))
            have n3_ := Aside0.mk (IsS78.grown (by repeat (first | (with_reducible first | exact HI0.out | apply IsS78.alloc | apply IsS78.drewN | apply IsS78.drew | apply IsS78.set_1 | apply IsS78.set_2 | refine IsS78.far ?_ NB0_208.out _ | refine IsS78.far ?_ NB0_215.out _) | exact HI0.out)) hg (IsS78.own_ne HI0.out HO_216001.out (by decide)))
            have n4_ := Aside0.mk (below_weaken (by repeat (first | (with_reducible first | exact HB.out | apply below_alloc | apply pw_below_drewN | apply below_drew1 | refine below_set ?_ (IsS78.ge HI0.out) | refine below_set ?_ GE208.out | refine below_set ?_ GE215.out) | exact HB.out)) HL.out hb)
            have n5_ := Aside0.mk (KeepBut.trans (by repeat (first | (with_reducible first | exact HK.out | apply KeepBut.set_ | apply keep_drewN | apply keep_drew | apply keep_alloc | refine keep_far ?_ GW208.out _ | refine keep_far ?_ GW215.out _) | exact HK.out)) (KeepBut.of_grown hg g) (Kd.R_base2 HO_216001.out))
            have n6_ := Aside0.mk (ho)
            clear HO_216000 BK208 BK215 HI0 HB HK HO_216001
            have HO_216000 := n0_
            have BK208 := n1_
            have BK215 := n2_
            have HI0 := n3_
            have HB := n4_
            have HK := n5_
            have HO222 := n6_
            clear n0_ n1_ n2_ n3_ n4_ n5_ n6_
            clear ho hb hg hat
            obtain ⟨Ao20, co20, eo20⟩ := Kd.R_slice HO222.out
            (first | subst eo20 | (injection eo20 with f1_ f2_ f3_; have f4_ := f1_.symm; have f5_ := f3_.symm; clear f1_ f2_ f3_; subst f4_; subst f5_))
            refine hK.out _ _ ⟨(blk_cell BK215.out 0).trans rfl, (blk_cell BK215.out 1).trans rfl⟩ (fun hHeld => ?_)
            clear hK K
            refine norm_ (a' := ?_) ?_ ?_
            rotate_left
            · show Act.put _ (some 22) _ = _
              simp only [Act.put, List.setIfInBounds_toArray, List.set_cons_zero, List.set_cons_succ, i64_w, i32_w]
              rfl
            refine pure_ (i := 6) (N := some 23) (v := ?_) (a' := ?_) #[true, true, true, true, true, true, true, false] rfl rfl (any_of HT_.out (by kernel_rfl)) (fun _ _ _ h => h) (Or.inl ⟨by rfl, ?_⟩) ?_ ?_
            rotate_left
            · intro w'
              go_simp
              with_reducible rfl
            rotate_left
            · simp only [Act.put, List.setIfInBounds_toArray, List.set_cons_zero, List.set_cons_succ, i64_w, i32_w]
              rfl
            refine last_ (i := 7) (N := none) #[true, true, true, true, true, true, true, true] rfl rfl (one_of HT_.out (by kernel_rfl)) (by decide) (fun K hK => ?_)
            have hs21 : w19.cell? ⟨gb215, 1, none⟩ = some (u216001) := (blk_cell BK215.out 1).trans rfl
            have hfs21 := blk_frozen BK215.out 1
            have hns21_0 := NB208_215.out
            have hms21_0 := NB215_208.out
            refine skip_ (w1 := ?_) (by rfl) rfl ?_ ?_
            rotate_left
            · go_simp
              rfl
            refine hK.out _ _ ?_
            clear hK K
            refine done_ (done_of HT_.out (by kernel_rfl)) ?_
            try go_wp2
            go_roundg k1
            case measure => have := HK1.out; omega
            case rel => exact ⟨(wrap64 (x6_1 + 1)), (t218), (t219), (y220), (.slice Ao20 y220.length co20), (by first | rfl | (simp; done) | (simp [*]; done)), H', ⟨by have := HK1.out; omega⟩, ⟨by (with_reducible repeat (first | apply Kd.R_alloc | apply Kd.R_drewN | apply Kd.R_drew)); exact Kd.R_mono (Kd.R_far (p := ⟨gb215, 1, none⟩) (Kd.R_types HO_216000.out BK215.out (by decide)) (fun _ hk => hk.2) (.slice Ao20 y220.length co20)) (fun _ hk => hk.1.2)⟩, ⟨by (with_reducible repeat (first | apply Kd.R_alloc | apply Kd.R_drewN | apply Kd.R_drew)); exact Kd.R_mono (Kd.R_far (p := ⟨gb215, 1, none⟩) (Kd.R_types HO222.out BK215.out (by decide)) (fun _ hk => hk.2) (.slice Ao20 y220.length co20)) (fun _ hk => hk.1)⟩, ⟨by (with_reducible repeat (first | refine blk_drewN ?_ _ | refine blk_drew ?_ | refine blk_alloc ?_ _)); refine blk_far ?_ NB208_215.out _; (with_reducible repeat (first | refine blk_drewN ?_ _ | refine blk_drew ?_ | refine blk_alloc ?_ _)); exact BK208.out⟩, ⟨by (with_reducible repeat (first | refine blk_drewN ?_ _ | refine blk_drew ?_ | refine blk_alloc ?_ _)); refine blk_put (cs := #[.slice Ao8 y212.length co8, u216001]) ?_ 1 _ rfl; (with_reducible repeat (first | refine blk_drewN ?_ _ | refine blk_drew ?_ | refine blk_alloc ?_ _)); exact BK215.out⟩, ⟨by repeat (first | (with_reducible first | exact HI0.out | apply IsS78.alloc | apply IsS78.drewN | apply IsS78.drew | apply IsS78.set_1 | apply IsS78.set_2 | refine IsS78.far ?_ NB0_208.out _ | refine IsS78.far ?_ NB0_215.out _) | exact HI0.out)⟩, ⟨by repeat (first | (with_reducible first | exact HK.out | apply KeepBut.set_ | apply keep_drewN | apply keep_drew | apply keep_alloc | refine keep_far ?_ GW208.out _ | refine keep_far ?_ GW215.out _) | exact HK.out)⟩, ⟨by repeat (first | (with_reducible first | exact HB.out | apply below_alloc | apply pw_below_drewN | apply below_drew1 | refine below_set ?_ (IsS78.ge HI0.out) | refine below_set ?_ GE208.out | refine below_set ?_ GE215.out) | exact HB.out)⟩⟩
          · rw [if_neg c16] at H
            exact absurd H (by simp)
        · rw [if_neg c14] at H
          have c14b0 : decide (x6_1 < t216) = false := decide_eq_false c14
          clear c14
          simp only [Option.some.injEq, Prod.mk.injEq] at H
          obtain ⟨rfl, rfl, rfl, rfl⟩ := H
          go_wp2_with (first | ((with_reducible refine gate_callee (f := 79) rfl ?_); refine goesL_ (some 13) rfl rfl Try.func79 (by kernel_rfl) rfl #[.slice A1 l1.length c1] rfl (by (try simp only [List.map_toArray, List.map_cons, List.map_nil]); first | done | rfl | (simp only [List.length_drop, List.length_take]; rfl)) ?_; (with_reducible refine (spec_SizeOf.calls k1 _ _ l1 t216 _ ?side1 ?side2 A13.out).mono ?_); (case side1 => exact Kd.C_keep 0 HR1.out (by repeat (first | (with_reducible first | exact HK.out | apply KeepBut.set_ | apply keep_drewN | apply keep_drew | apply keep_alloc | refine keep_far ?_ GW208.out _ | refine keep_far ?_ GW215.out _) | exact HK.out)) hf1); (case side2 => exact HC1.out); rintro e w' ⟨rfl, ⟨nd, rfl⟩⟩; refine ⟨_, rfl, ?_⟩; (try (rw [drewN_self wr]; generalize hq_ : World.drewN wr _ = wr; have n0_ : Aside0 (Kd.R (Kd.int .i64) 3 wr w.heap.size (fun k_ => some k_ ≠ (u216001 : Value).ownBlock) (.slice Ao8 y212.length co8) y212) := ⟨by rw [← hq_]; exact (RU HO_216000.out)⟩; have n1_ : Aside0 (Kd.R (Kd.int .i64) 3 wr w.heap.size (fun k_ => some k_ ≠ (.slice Ao8 y212.length co8 : Value).ownBlock) u216001 x216001_1) := ⟨by rw [← hq_]; exact (RU HO_216001.out)⟩; have n2_ : Aside0 (wr.heap[gb208]? = some (.cells #[.slice none 0 0, .slice none 0 0] 26 (0, 0))) := ⟨by rw [← hq_]; exact (kU BK208.out)⟩; have n3_ : Aside0 (wr.heap[gb215]? = some (.cells #[.slice Ao8 y212.length co8, u216001] 26 (0, 0))) := ⟨by rw [← hq_]; exact (kU BK215.out)⟩; have n4_ : Aside0 (IsS78 w0 wr g s0_0 x1001_1 x1002_1) := ⟨by rw [← hq_]; exact (by repeat (first | (with_reducible first | exact HI0.out | apply IsS78.alloc | apply IsS78.drewN | apply IsS78.drew | apply IsS78.set_1 | apply IsS78.set_2 | refine IsS78.far ?_ NB0_208.out _ | refine IsS78.far ?_ NB0_215.out _) | exact HI0.out))⟩; have n5_ : Aside0 (KeepBut w wr g none) := ⟨by rw [← hq_]; exact (by repeat (first | (with_reducible first | exact HK.out | apply KeepBut.set_ | apply keep_drewN | apply keep_drew | apply keep_alloc | refine keep_far ?_ GW208.out _ | refine keep_far ?_ GW215.out _) | exact HK.out))⟩; have n6_ : Aside0 (Below w0.heap.size w0 wr) := ⟨by rw [← hq_]; exact (by repeat (first | (with_reducible first | exact HB.out | apply below_alloc | apply pw_below_drewN | apply below_drew1 | refine below_set ?_ (IsS78.ge HI0.out) | refine below_set ?_ GE208.out | refine below_set ?_ GE215.out) | exact HB.out))⟩; clear HO_216000 HO_216001 BK208 BK215 HI0 HK HB hq_; have HO_216000 := n0_; have HO_216001 := n1_; have BK208 := n2_; have BK215 := n3_; have HI0 := n4_; have HK := n5_; have HB := n6_; clear n0_ n1_ n2_ n3_ n4_ n5_ n6_)); have hnb22 := NB215_208.out; have hnc22 := NB208_215.out; have hnb23 := NB215_0.out; have hnc23 := NB0_215.out; have hcz24_0 : wr.cell? ⟨gb215, 0, none⟩ = some (.slice Ao8 y212.length co8) := (blk_cell BK215.out 0).trans rfl; have hcz24_1 : wr.cell? ⟨gb215, 1, none⟩ = some (u216001) := (blk_cell BK215.out 1).trans rfl; have hfz24_0 := blk_frozen BK215.out 0; have hfz24_1 := blk_frozen BK215.out 1; have hnb25 := NB208_0.out; have hnc25 := NB0_208.out; have hcz26_0 : wr.cell? ⟨gb208, 0, none⟩ = some (.slice none 0 0) := (blk_cell BK208.out 0).trans rfl; have hcz26_1 : wr.cell? ⟨gb208, 1, none⟩ = some (.slice none 0 0) := (blk_cell BK208.out 1).trans rfl; have hfz26_0 := blk_frozen BK208.out 0; have hfz26_1 := blk_frozen BK208.out 1; obtain ⟨Ao27, co27, eo27⟩ := Kd.R_slice HO_216001.out; subst eo27))
          refine bodyPost_ret (results_cell_row rfl _ _ gb208 26 #[.slice Ao8 y212.length co8, .slice Ao27 x216001_1.length co27] (0, 0) _ rfl (by (with_reducible repeat (first | refine blk_drewN ?_ _ | refine blk_drew ?_ | refine blk_alloc ?_ _)); refine blk_put (cs := #[.slice Ao8 y212.length co8, .slice none 0 0]) ?_ 1 _ rfl; (with_reducible repeat (first | refine blk_drewN ?_ _ | refine blk_drew ?_ | refine blk_alloc ?_ _)); refine blk_put (cs := #[.slice none 0 0, .slice none 0 0]) ?_ 0 _ rfl; (with_reducible repeat (first | refine blk_drewN ?_ _ | refine blk_drew ?_ | refine blk_alloc ?_ _)); exact BK208.out) Try.underlying26 rfl (by kernel_rfl)) rfl ?_
          exact ⟨_, _, by first | rfl | (simp [errW_none, errW_some] <;> rfl) | (simp [*, errW_none, errW_some] <;> rfl), by (with_reducible repeat (first | apply Kd.R_alloc | apply Kd.R_drewN | apply Kd.R_drew)); exact Kd.R_mono (Kd.R_far (p := ⟨gb208, 1, none⟩) (Kd.R_far (p := ⟨gb208, 0, none⟩) (Kd.R_types HO_216000.out BK208.out (by decide)) (fun _ hk => hk.2) (.slice Ao8 y212.length co8)) (fun _ hk => hk.2) (.slice Ao27 x216001_1.length co27)) (fun _ hk => hk.1), by (with_reducible repeat (first | apply Kd.R_alloc | apply Kd.R_drewN | apply Kd.R_drew)); exact Kd.R_mono (Kd.R_far (p := ⟨gb208, 1, none⟩) (Kd.R_far (p := ⟨gb208, 0, none⟩) (Kd.R_types HO_216001.out BK208.out (by decide)) (fun _ hk => hk.2) (.slice Ao8 y212.length co8)) (fun _ hk => hk.2) (.slice Ao27 x216001_1.length co27)) (fun _ hk => hk.1), by repeat (first | (with_reducible first | exact HI0.out | apply IsS78.alloc | apply IsS78.drewN | apply IsS78.drew | apply IsS78.set_1 | apply IsS78.set_2 | refine IsS78.far ?_ NB0_208.out _ | refine IsS78.far ?_ NB0_215.out _) | exact HI0.out), by repeat (first | (with_reducible first | exact HB.out | apply below_alloc | apply pw_below_drewN | apply below_drew1 | refine below_set ?_ (IsS78.ge HI0.out) | refine below_set ?_ GE208.out | refine below_set ?_ GE215.out) | exact HB.out), by repeat (first | (with_reducible first | exact HK.out | apply KeepBut.set_ | apply keep_drewN | apply keep_drew | apply keep_alloc | refine keep_far ?_ GW208.out _ | refine keep_far ?_ GW215.out _) | exact HK.out)⟩
  · rw [if_neg c3] at H
    exact absurd H (by simp)

/-! ### spec_l3DrawRight: function 110 -/
def spec_l3DrawRight.f (k : Nat) (s0_0 : List Int) (s0_1 : Int) (s0_2 : Int) : Option (List Int × List Int × Int × Int) := (spec_l2DrawRight.f k s0_0 s0_1 s0_2).bind fun bt224 => ((spec_l3Fill.f k s0_0 bt224.2.1 bt224.2.2 bt224.1).bind fun bt229 => (some (bt229.1, bt229.2.1, bt229.2.2.1, bt229.2.2.2)))
theorem spec_l3DrawRight.mono : ∀ a0 a1 a2 k, LeO (spec_l3DrawRight.f k a0 a1 a2) (spec_l3DrawRight.f (k + 1) a0 a1 a2) := by
  intro a0 a1 a2 k
  unfold spec_l3DrawRight.f
  repeat' first
      | (with_reducible exact spec_l2DrawRight.mono _ _ _ _)
      | (with_reducible exact spec_l3Fill.mono _ _ _ _ _)
      | (with_reducible exact LeO.refl _)
      | (with_reducible exact LeO.none _)
      | (with_reducible refine LeO.ite ?_ ?_)
      | (with_reducible refine LeO.bind ?_ (fun _ => ?_))
      | exact spec_l2DrawRight.mono _ _ _ _
      | exact spec_l3Fill.mono _ _ _ _ _
      | exact LeO.none _
      | refine LeO.ite ?_ ?_
      | refine LeO.bind ?_ (fun _ => ?_)
set_option maxHeartbeats 8000000 in
set_option maxRecDepth 100000 in
theorem spec_l3DrawRight.calls (k : Nat) (g : Nat) (s0_0 : List Int) (s0_1 : Int) (s0_2 : Int) (r1 : List Int) (r2 : List Int) (r3 : Int) (r4 : Int) (w0 w : World) (hI : IsS78 w0 w g s0_0 s0_1 s0_2) (hB : Below w0.heap.size w0 w) (h : spec_l3DrawRight.f k s0_0 s0_1 s0_2 = some (r1, r2, r3, r4)) :
    Calls Try.prog 110 #[.pointer (some ⟨g, 0, none⟩)] w fun e w' => ∃ v0_ v1_ : Value, e = .returned (.agg #[v0_, v1_]) ∧ Kd.R (Kd.int .i64) 3 w' w.heap.size (fun k_ => some k_ ≠ (v1_ : Value).ownBlock) v0_ r1 ∧ Kd.R (Kd.int .i64) 3 w' w.heap.size (fun k_ => some k_ ≠ (v0_ : Value).ownBlock) v1_ r2 ∧ IsS78 w0 w' g s0_0 r3 r4 ∧ Below w0.heap.size w0 w' ∧ KeepBut w w' g none := by
  have hu26 := Try.underlying26
  have HI0 := Aside0.mk hI
  have HK := Aside0.mk (KeepBut.refl w g none)
  have HL := Aside0.mk hB.size
  clear hI
  have HW0 := Aside0.mk hB.size
  have HB := Aside0.mk hB
  clear hB
  have H : ((spec_l2DrawRight.f k s0_0 s0_1 s0_2).bind fun bt224 => ((spec_l3Fill.f k s0_0 bt224.2.1 bt224.2.2 bt224.1).bind fun bt229 => (some (bt229.1, bt229.2.1, bt229.2.2.1, bt229.2.2.2)))) = some (r1, r2, r3, r4) := h
  clear h
  replace H := Option.bind_eq_some_iff.mp H
  obtain ⟨⟨t224, t227, t228⟩, A20, H⟩ := H
  replace H : ((spec_l3Fill.f k s0_0 t227 t228 t224).bind fun bt229 => (some (bt229.1, bt229.2.1, bt229.2.2.1, bt229.2.2.2))) = some (r1, r2, r3, r4) := H
  have A2 := Aside0.mk A20
  clear A20
  replace H := Option.bind_eq_some_iff.mp H
  obtain ⟨⟨t229, t232, t235, t236⟩, A30, H⟩ := H
  replace H : (some (t229, t232, t235, t236)) = some (r1, r2, r3, r4) := H
  have A3 := Aside0.mk A30
  clear A30
  simp only [Option.some.injEq, Prod.mk.injEq] at H
  obtain ⟨rfl, rfl, rfl, rfl⟩ := H
  go_enter Try.func110, Try.ntmps110
  go_wp2_with (first | ((with_reducible refine gate_dst (N := 2) rfl ?_); refine box_event ?hg (N := 2) ?hd (cs := #[.slice none 0 0, .slice none 0 0]) (t := 26) ?hr ?_; (case hd => rfl); (case hg => rfl); (case hr => first | (go_simp; done) | (go_simp; rfl)); intro gb223 hg w4 hbox hb; have n0_ := Aside0.mk (IsS78.below (by repeat (first | (with_reducible first | exact HI0.out | apply IsS78.alloc | apply IsS78.drewN | apply IsS78.drew | apply IsS78.set_1 | apply IsS78.set_2) | exact HI0.out)) hb); have n1_ := Aside0.mk (KeepBut.trans (by repeat (first | (with_reducible first | exact HK.out | apply KeepBut.set_ | apply keep_drewN | apply keep_drew | apply keep_alloc) | exact HK.out)) (KeepBut.of_below hb g none) (.inl rfl)); have n2_ := Aside0.mk (below_step (by repeat (first | (with_reducible first | exact HB.out | apply below_alloc | apply pw_below_drewN | apply below_drew1 | refine below_set ?_ (IsS78.ge HI0.out)) | exact HB.out)) hb); have n3_ := Aside0.mk (hbox); have n4_ := Aside0.mk ((by rw [hg]; exact (keep_size (w := w) (g := g) (row := none) (by repeat (first | (with_reducible first | exact HK.out | apply KeepBut.set_ | apply keep_drewN | apply keep_drew | apply keep_alloc) | exact HK.out))) : w.heap.size ≤ gb223)); have n5_ := Aside0.mk ((Nat.le_trans HW0.out (by rw [hg]; exact (keep_size (w := w) (g := g) (row := none) (by repeat (first | (with_reducible first | exact HK.out | apply KeepBut.set_ | apply keep_drewN | apply keep_drew | apply keep_alloc) | exact HK.out))) : w.heap.size ≤ gb223) : w0.heap.size ≤ gb223)); have n6_ := Aside0.mk ((by rw [hg]; exact Nat.ne_of_lt (IsS78.lt (show IsS78 w0 _ g s0_0 s0_1 s0_2 from by repeat (first | (with_reducible first | exact HI0.out | apply IsS78.alloc | apply IsS78.drewN | apply IsS78.drew | apply IsS78.set_1 | apply IsS78.set_2) | exact HI0.out))) : g ≠ gb223)); have n7_ := Aside0.mk ((by rw [hg]; exact Nat.ne_of_gt (IsS78.lt (show IsS78 w0 _ g s0_0 s0_1 s0_2 from by repeat (first | (with_reducible first | exact HI0.out | apply IsS78.alloc | apply IsS78.drewN | apply IsS78.drew | apply IsS78.set_1 | apply IsS78.set_2) | exact HI0.out))) : gb223 ≠ g)); clear HI0; clear HK; clear HB; have HI0 := n0_; have HK := n1_; have HB := n2_; have BK223 := n3_; have GW223 := n4_; have GE223 := n5_; have NB0_223 := n6_; have NB223_0 := n7_; clear n0_ n1_ n2_ n3_ n4_ n5_ n6_ n7_; clear hb hbox hg) | ((with_reducible refine gate_callee (f := 96) rfl ?_); refine goesL_ (some 5) rfl rfl Try.func96 (by kernel_rfl) rfl #[.pointer (some ⟨g, 0, none⟩)] rfl (by (try simp only [List.map_toArray, List.map_cons, List.map_nil]); first | done | rfl | (simp only [List.length_drop, List.length_take]; rfl)) ?_; (with_reducible refine (spec_l2DrawRight.calls k g s0_0 s0_1 s0_2 t224 t227 t228 w0 _ ?side1 ?side2 A2.out).mono ?_); (case side1 => repeat (first | (with_reducible first | exact HI0.out | apply IsS78.alloc | apply IsS78.drewN | apply IsS78.drew | apply IsS78.set_1 | apply IsS78.set_2 | refine IsS78.far ?_ NB0_223.out _) | exact HI0.out)); (case side2 => repeat (first | (with_reducible first | exact HB.out | apply below_alloc | apply pw_below_drewN | apply below_drew1 | refine below_set ?_ (IsS78.ge HI0.out) | refine below_set ?_ GE223.out) | exact HB.out)); rintro e w5 ⟨v225, rfl, ho0, hi, hb, hk⟩; refine ⟨_, rfl, ?_⟩; have n0_ := Aside0.mk (KeepBut.blk hk (g' := gb223) (o := .cells #[.slice none 0 0, .slice none 0 0] 26 (0, 0)) (kU BK223.out) NB223_0.out (by simp)); have n1_ := Aside0.mk (Kd.R_lower ho0 (keep_size (w := w) (g := g) (row := none) (by repeat (first | (with_reducible first | exact HK.out | apply KeepBut.set_ | apply keep_drewN | apply keep_drew | apply keep_alloc | refine keep_far ?_ GW223.out _) | exact HK.out)))); have n2_ := Aside0.mk (KeepBut.trans (by repeat (first | (with_reducible first | exact HK.out | apply KeepBut.set_ | apply keep_drewN | apply keep_drew | apply keep_alloc | refine keep_far ?_ GW223.out _) | exact HK.out)) hk (.inl rfl)); have n3_ := Aside0.mk (hb); have n4_ := Aside0.mk (hi); clear BK223; clear HK; clear HB; clear HI0; have BK223 := n0_; have HO226 := n1_; have HK := n2_; have HB := n3_; have HI0 := n4_; clear n0_ n1_ n2_ n3_ n4_; (try clear hb); (try clear hb2); (try clear hk); (try clear hi); (try clear ho0); obtain ⟨Ao6, co6, eo6⟩ := Kd.R_slice HO226.out; subst eo6) | ((with_reducible refine gate_callee (f := 117) rfl ?_); refine goesL_ (some 6) rfl rfl Try.func117 (by kernel_rfl) rfl #[.pointer (some ⟨g, 0, none⟩), .slice Ao6 t224.length co6] rfl (by (try simp only [List.map_toArray, List.map_cons, List.map_nil]); first | done | rfl | (simp only [List.length_drop, List.length_take]; rfl)) ?_; (with_reducible refine (spec_l3Fill.calls k g s0_0 t227 t228 _ _ t224 t229 t232 t235 t236 w0 _ ?side1 ?side2 ?side3 ?side4 ?side5 A3.out).mono ?_); (case side1 => repeat (first | (with_reducible first | exact HI0.out | apply IsS78.alloc | apply IsS78.drewN | apply IsS78.drew | apply IsS78.set_1 | apply IsS78.set_2 | refine IsS78.far ?_ NB0_223.out _) | exact HI0.out)); (case side2 => repeat (first | (with_reducible first | exact HB.out | apply below_alloc | apply pw_below_drewN | apply below_drew1 | refine below_set ?_ (IsS78.ge HI0.out) | refine below_set ?_ GE223.out) | exact HB.out)); (case side3 => exact cU (Kd.R_reads' HO226.out).2.2); (case side4 => exact (Kd.R_reads' HO226.out).2.1); (case side5 => exact far_slice (IsS78.own_ne HI0.out HO226.out (by decide))); rintro e w7 ⟨v230, v233, rfl, ho0, ho1, hi, hb, hk⟩; refine ⟨_, rfl, ?_⟩; have n0_ := Aside0.mk (KeepBut.blk hk (g' := gb223) (o := .cells #[.slice none 0 0, .slice none 0 0] 26 (0, 0)) (kU BK223.out) NB223_0.out (by simp)); have n1_ := Aside0.mk (Kd.R_mono (Kd.R_told (Kd.R_told (Kd.R_oldK (IsS78.apart (show IsS78 w0 _ g s0_0 t227 t228 from by repeat (first | (with_reducible first | exact HI0.out | apply IsS78.alloc | apply IsS78.drewN | apply IsS78.drew | apply IsS78.set_1 | apply IsS78.set_2 | refine IsS78.far ?_ NB0_223.out _) | exact HI0.out)) (RU HO226.out) (by decide)) hk) (Kd.R_base ho0)) (Kd.R_base ho1)) (fun _ h_ => h_.1)); have n2_ := Aside0.mk (Kd.R_lower (Kd.R_new' ho0 (Kd.R_lt (RU HO226.out))) (keep_size (w := w) (g := g) (row := none) (by repeat (first | (with_reducible first | exact HK.out | apply KeepBut.set_ | apply keep_drewN | apply keep_drew | apply keep_alloc | refine keep_far ?_ GW223.out _) | exact HK.out)))); have n3_ := Aside0.mk (Kd.R_lower (Kd.R_new' ho1 (Kd.R_lt (RU HO226.out))) (keep_size (w := w) (g := g) (row := none) (by repeat (first | (with_reducible first | exact HK.out | apply KeepBut.set_ | apply keep_drewN | apply keep_drew | apply keep_alloc | refine keep_far ?_ GW223.out _) | exact HK.out)))); have n4_ := Aside0.mk (KeepBut.trans (by repeat (first | (with_reducible first | exact HK.out | apply KeepBut.set_ | apply keep_drewN | apply keep_drew | apply keep_alloc | refine keep_far ?_ GW223.out _) | exact HK.out)) hk (.inl rfl)); have n5_ := Aside0.mk (hb); have n6_ := Aside0.mk (hi); clear BK223; clear HO226; clear HK; clear HB; clear HI0; have BK223 := n0_; have HO226 := n1_; have HO231 := n2_; have HO234 := n3_; have HK := n4_; have HB := n5_; have HI0 := n6_; clear n0_ n1_ n2_ n3_ n4_ n5_ n6_; (try clear hb); (try clear hb2); (try clear hk); (try clear hi); (try clear ho0); (try clear ho1); obtain ⟨Ao8, co8, eo8⟩ := Kd.R_slice HO231.out; subst eo8; have hnb9 := NB223_0.out; have hnc9 := NB0_223.out; have hcz10_0 : w7.cell? ⟨gb223, 0, none⟩ = some (.slice none 0 0) := (blk_cell BK223.out 0).trans rfl; have hcz10_1 : w7.cell? ⟨gb223, 1, none⟩ = some (.slice none 0 0) := (blk_cell BK223.out 1).trans rfl; have hfz10_0 := blk_frozen BK223.out 0; have hfz10_1 := blk_frozen BK223.out 1; obtain ⟨Ao11, co11, eo11⟩ := Kd.R_slice HO234.out; subst eo11))
  refine bodyPost_ret (results_cell_row rfl _ _ gb223 26 #[.slice Ao8 t229.length co8, .slice Ao11 t232.length co11] (0, 0) _ rfl (by (with_reducible repeat (first | refine blk_drewN ?_ _ | refine blk_drew ?_ | refine blk_alloc ?_ _)); refine blk_put (cs := #[.slice Ao8 t229.length co8, .slice none 0 0]) ?_ 1 _ rfl; (with_reducible repeat (first | refine blk_drewN ?_ _ | refine blk_drew ?_ | refine blk_alloc ?_ _)); refine blk_put (cs := #[.slice none 0 0, .slice none 0 0]) ?_ 0 _ rfl; (with_reducible repeat (first | refine blk_drewN ?_ _ | refine blk_drew ?_ | refine blk_alloc ?_ _)); exact BK223.out) Try.underlying26 rfl (by kernel_rfl)) rfl ?_
  exact ⟨_, _, by first | rfl | (simp [errW_none, errW_some] <;> rfl) | (simp [*, errW_none, errW_some] <;> rfl), by (with_reducible repeat (first | apply Kd.R_alloc | apply Kd.R_drewN | apply Kd.R_drew)); exact Kd.R_mono (Kd.R_far (p := ⟨gb223, 1, none⟩) (Kd.R_far (p := ⟨gb223, 0, none⟩) (Kd.R_types HO231.out BK223.out (by decide)) (fun _ hk => hk.2) (.slice Ao8 t229.length co8)) (fun _ hk => hk.2) (.slice Ao11 t232.length co11)) (fun _ hk => hk.1.1), by (with_reducible repeat (first | apply Kd.R_alloc | apply Kd.R_drewN | apply Kd.R_drew)); exact Kd.R_mono (Kd.R_far (p := ⟨gb223, 1, none⟩) (Kd.R_far (p := ⟨gb223, 0, none⟩) (Kd.R_types HO234.out BK223.out (by decide)) (fun _ hk => hk.2) (.slice Ao8 t229.length co8)) (fun _ hk => hk.2) (.slice Ao11 t232.length co11)) (fun _ hk => hk.1.1), by repeat (first | (with_reducible first | exact HI0.out | apply IsS78.alloc | apply IsS78.drewN | apply IsS78.drew | apply IsS78.set_1 | apply IsS78.set_2 | refine IsS78.far ?_ NB0_223.out _) | exact HI0.out), by repeat (first | (with_reducible first | exact HB.out | apply below_alloc | apply pw_below_drewN | apply below_drew1 | refine below_set ?_ (IsS78.ge HI0.out) | refine below_set ?_ GE223.out) | exact HB.out), by repeat (first | (with_reducible first | exact HK.out | apply KeepBut.set_ | apply keep_drewN | apply keep_drew | apply keep_alloc | refine keep_far ?_ GW223.out _) | exact HK.out)⟩

/-! ### spec_l1DrawRaw: function 111 -/
def spec_l1DrawRaw.f (s0_0 : List Int) (s0_1 : Int) (s0_2 : Int) : Option (Int × Int × Int) := (spec_l1Once.f s0_0 s0_1 s0_2 15).bind fun bt237 => (if bt237.1 = true then ((spec_l1PickInt.f s0_0 bt237.2.1 bt237.2.2 (([1000000000001, (-1000000000001), 9223372036854775807, (-9223372036854775808)] : List Int))).bind fun bt243 => (some (bt243.1, bt243.2.1, bt243.2.2))) else ((spec_l1DrawNum.f s0_0 bt237.2.1 bt237.2.2).bind fun bt246 => (some (bt246.1, bt246.2.1, bt246.2.2))))
set_option maxHeartbeats 8000000 in
set_option maxRecDepth 100000 in
theorem spec_l1DrawRaw.calls (g : Nat) (s0_0 : List Int) (s0_1 : Int) (s0_2 : Int) (r1 : Int) (r2 : Int) (r3 : Int) (w0 w : World) (hI : IsS78 w0 w g s0_0 s0_1 s0_2) (hB : Below w0.heap.size w0 w) (h : spec_l1DrawRaw.f s0_0 s0_1 s0_2 = some (r1, r2, r3)) :
    Calls Try.prog 111 #[.pointer (some ⟨g, 0, none⟩)] w fun e w' => e = .returned (.int .i64 r1) ∧ IsS78 w0 w' g s0_0 r2 r3 ∧ Below w0.heap.size w0 w' ∧ KeepBut w w' g none := by
  have HI0 := Aside0.mk hI
  have HK := Aside0.mk (KeepBut.refl w g none)
  have HL := Aside0.mk hB.size
  clear hI
  have HW0 := Aside0.mk hB.size
  have HB := Aside0.mk hB
  clear hB
  have H : ((spec_l1Once.f s0_0 s0_1 s0_2 15).bind fun bt237 => (if bt237.1 = true then ((spec_l1PickInt.f s0_0 bt237.2.1 bt237.2.2 (([1000000000001, (-1000000000001), 9223372036854775807, (-9223372036854775808)] : List Int))).bind fun bt243 => (some (bt243.1, bt243.2.1, bt243.2.2))) else ((spec_l1DrawNum.f s0_0 bt237.2.1 bt237.2.2).bind fun bt246 => (some (bt246.1, bt246.2.1, bt246.2.2))))) = some (r1, r2, r3) := h
  clear h
  replace H := Option.bind_eq_some_iff.mp H
  obtain ⟨⟨t237, t238, t239⟩, A20, H⟩ := H
  replace H : (if t237 = true then ((spec_l1PickInt.f s0_0 t238 t239 (([1000000000001, (-1000000000001), 9223372036854775807, (-9223372036854775808)] : List Int))).bind fun bt243 => (some (bt243.1, bt243.2.1, bt243.2.2))) else ((spec_l1DrawNum.f s0_0 t238 t239).bind fun bt246 => (some (bt246.1, bt246.2.1, bt246.2.2)))) = some (r1, r2, r3) := H
  have A2 := Aside0.mk A20
  clear A20
  by_cases c3 : t237 = true
  · subst c3
    have H1 : ((spec_l1PickInt.f s0_0 t238 t239 (([1000000000001, (-1000000000001), 9223372036854775807, (-9223372036854775808)] : List Int))).bind fun bt243 => (some (bt243.1, bt243.2.1, bt243.2.2))) = some (r1, r2, r3) := by rw [if_pos rfl] at H; exact H
    clear H
    have H := H1
    clear H1
    obtain ⟨y240, hy240⟩ : ∃ y_ : List Int, y_ = (([1000000000001, (-1000000000001), 9223372036854775807, (-9223372036854775808)] : List Int)) := ⟨_, rfl⟩
    replace H : ((spec_l1PickInt.f s0_0 t238 t239 y240).bind fun bt243 => (some (bt243.1, bt243.2.1, bt243.2.2))) = some (r1, r2, r3) := by first | (rw [hy240]; with_reducible exact H) | (have H2_ := (Option.bind_some _ _).symm.trans H; rw [hy240]; with_reducible exact H2_) | (have H2_ := (Option.bind_some _ _).symm.trans H; with_reducible exact H2_) | with_reducible exact H | (rw [hy240]; exact H) | exact H
    have Ny240 := Aside0.mk hy240
    clear hy240
    replace H := Option.bind_eq_some_iff.mp H
    obtain ⟨⟨t243, t244, t245⟩, A40, H⟩ := H
    replace H : (some (t243, t244, t245)) = some (r1, r2, r3) := H
    have A4 := Aside0.mk A40
    clear A40
    simp only [Option.some.injEq, Prod.mk.injEq] at H
    obtain ⟨rfl, rfl, rfl⟩ := H
    go_enter Try.func111, Try.ntmps111
    go_wp2_with (first | ((with_reducible refine gate_callee (f := 118) rfl ?_); refine goesL_ (some 4) rfl rfl Try.func118 (by kernel_rfl) rfl #[.pointer (some ⟨g, 0, none⟩), .int .i64 15] rfl (by (try simp only [List.map_toArray, List.map_cons, List.map_nil]); first | done | rfl | (simp only [List.length_drop, List.length_take]; rfl)) ?_; (with_reducible refine (spec_l1Once.calls g s0_0 s0_1 s0_2 15 true t238 t239 w0 _ ?side1 ?side2 A2.out).mono ?_); (case side1 => repeat (first | (with_reducible first | exact HI0.out | apply IsS78.alloc | apply IsS78.drewN | apply IsS78.drew | apply IsS78.set_1 | apply IsS78.set_2) | exact HI0.out)); (case side2 => repeat (first | (with_reducible first | exact HB.out | apply below_alloc | apply pw_below_drewN | apply below_drew1 | refine below_set ?_ (IsS78.ge HI0.out)) | exact HB.out)); rintro e w5 ⟨rfl, hi, hb, hk⟩; refine ⟨_, rfl, ?_⟩; have n0_ := Aside0.mk (KeepBut.trans (by repeat (first | (with_reducible first | exact HK.out | apply KeepBut.set_ | apply keep_drewN | apply keep_drew | apply keep_alloc) | exact HK.out)) hk (.inl rfl)); have n1_ := Aside0.mk (hb); have n2_ := Aside0.mk (hi); clear HK; clear HB; clear HI0; have HK := n0_; have HB := n1_; have HI0 := n2_; clear n0_ n1_ n2_; (try clear hb); (try clear hb2); (try clear hk); (try clear hi)) | ((with_reducible refine gate_dst (N := 6) rfl ?_); refine Kd.R_lit (Kd.int .i64) _ 3 ?hg (N := 6) ?hd (xs := ([1000000000001, (-1000000000001), 9223372036854775807, (-9223372036854775808)] : List Int)) (inner := [.int .i64 1000000000001, .int .i64 (-1000000000001), .int .i64 9223372036854775807, .int .i64 (-9223372036854775808)]) (ok := fun _ => True) (okp := fun _ => True) ?hr ?hp (fun _ hk => hk) trivial (Below.refl _ _) (Nat.le_refl _) (by simp) ?_; (case hd => rfl); (case hg => rfl); (case hr => first | (go_simp; done) | (go_simp; rfl)); (case hp => exact (Reps.one (show Kd.M (Kd.int .i64) _ _ _ 1000000000001 [.int .i64 1000000000001] from rfl) (Reps.one (show Kd.M (Kd.int .i64) _ _ _ (-1000000000001) [.int .i64 (-1000000000001)] from rfl) (Reps.one (show Kd.M (Kd.int .i64) _ _ _ 9223372036854775807 [.int .i64 9223372036854775807] from rfl) (Reps.one (show Kd.M (Kd.int .i64) _ _ _ (-9223372036854775808) [.int .i64 (-9223372036854775808)] from rfl) (Reps.none _ _)))))); intro v241 w6 ho7 hb hg_ hnew_; clear hg_ hnew_; (first | rw [← Ny240.out] at ho7 | (simp only [Int.reduceToNat] at ho7; rw [← Ny240.out] at ho7)); have n0_ := Aside0.mk (Kd.R_lower ho7 (keep_size (w := w) (g := g) (row := none) (by repeat (first | (with_reducible first | exact HK.out | apply KeepBut.set_ | apply keep_drewN | apply keep_drew | apply keep_alloc) | exact HK.out)))); have n1_ := Aside0.mk (IsS78.below (by repeat (first | (with_reducible first | exact HI0.out | apply IsS78.alloc | apply IsS78.drewN | apply IsS78.drew | apply IsS78.set_1 | apply IsS78.set_2) | exact HI0.out)) hb); have n2_ := Aside0.mk (KeepBut.trans (by repeat (first | (with_reducible first | exact HK.out | apply KeepBut.set_ | apply keep_drewN | apply keep_drew | apply keep_alloc) | exact HK.out)) (KeepBut.of_below hb g none) (.inl rfl)); have n3_ := Aside0.mk (below_step (by repeat (first | (with_reducible first | exact HB.out | apply below_alloc | apply pw_below_drewN | apply below_drew1 | refine below_set ?_ (IsS78.ge HI0.out)) | exact HB.out)) hb); clear HI0; clear HK; clear HB; have HO242 := n0_; have HI0 := n1_; have HK := n2_; have HB := n3_; clear n0_ n1_ n2_ n3_; clear hb ho7; obtain ⟨Ao8, co8, eo8⟩ := Kd.R_slice HO242.out; subst eo8) | ((with_reducible refine gate_callee (f := 115) rfl ?_); refine goesL_ (some 7) rfl rfl Try.func115 (by kernel_rfl) rfl #[.pointer (some ⟨g, 0, none⟩), .slice Ao8 y240.length co8] rfl (by (try simp only [List.map_toArray, List.map_cons, List.map_nil]); first | done | rfl | (simp only [List.length_drop, List.length_take]; rfl)) ?_; (with_reducible refine (spec_l1PickInt.calls g s0_0 t238 t239 _ _ y240 t243 t244 t245 w0 _ ?side1 ?side2 ?side3 ?side4 ?side5 A4.out).mono ?_); (case side1 => repeat (first | (with_reducible first | exact HI0.out | apply IsS78.alloc | apply IsS78.drewN | apply IsS78.drew | apply IsS78.set_1 | apply IsS78.set_2) | exact HI0.out)); (case side2 => repeat (first | (with_reducible first | exact HB.out | apply below_alloc | apply pw_below_drewN | apply below_drew1 | refine below_set ?_ (IsS78.ge HI0.out)) | exact HB.out)); (case side3 => exact cU (Kd.R_reads' HO242.out).2.2); (case side4 => exact (Kd.R_reads' HO242.out).2.1); (case side5 => exact far_slice (IsS78.own_ne HI0.out HO242.out (by decide))); rintro e w9 ⟨rfl, hi, hb, hk⟩; refine ⟨_, rfl, ?_⟩; have n0_ := Aside0.mk (Kd.R_mono (Kd.R_keep (IsS78.apart (show IsS78 w0 _ g s0_0 t238 t239 from by repeat (first | (with_reducible first | exact HI0.out | apply IsS78.alloc | apply IsS78.drewN | apply IsS78.drew | apply IsS78.set_1 | apply IsS78.set_2) | exact HI0.out)) (RU HO242.out) (by decide)) hk (fun _ h => h.2)) (fun _ h => h.1)); have n1_ := Aside0.mk (KeepBut.trans (by repeat (first | (with_reducible first | exact HK.out | apply KeepBut.set_ | apply keep_drewN | apply keep_drew | apply keep_alloc) | exact HK.out)) hk (.inl rfl)); have n2_ := Aside0.mk (hb); have n3_ := Aside0.mk (hi); clear HO242; clear HK; clear HB; clear HI0; have HO242 := n0_; have HK := n1_; have HB := n2_; have HI0 := n3_; clear n0_ n1_ n2_ n3_; (try clear hb); (try clear hb2); (try clear hk); (try clear hi)))
    go_ret
    exact ⟨by first | rfl | (simp [errW_none, errW_some] <;> rfl) | (simp [*, errW_none, errW_some] <;> rfl), by repeat (first | (with_reducible first | exact HI0.out | apply IsS78.alloc | apply IsS78.drewN | apply IsS78.drew | apply IsS78.set_1 | apply IsS78.set_2) | exact HI0.out), by repeat (first | (with_reducible first | exact HB.out | apply below_alloc | apply pw_below_drewN | apply below_drew1 | refine below_set ?_ (IsS78.ge HI0.out)) | exact HB.out), by repeat (first | (with_reducible first | exact HK.out | apply KeepBut.set_ | apply keep_drewN | apply keep_drew | apply keep_alloc) | exact HK.out)⟩
  · replace c3 := Bool.eq_false_iff.mpr c3
    subst c3
    have H1 : ((spec_l1DrawNum.f s0_0 t238 t239).bind fun bt246 => (some (bt246.1, bt246.2.1, bt246.2.2))) = some (r1, r2, r3) := by rw [if_neg (show ¬ (false = true) by decide)] at H; exact H
    clear H
    have H := H1
    clear H1
    replace H := Option.bind_eq_some_iff.mp H
    obtain ⟨⟨t246, t247, t248⟩, A100, H⟩ := H
    replace H : (some (t246, t247, t248)) = some (r1, r2, r3) := H
    have A10 := Aside0.mk A100
    clear A100
    simp only [Option.some.injEq, Prod.mk.injEq] at H
    obtain ⟨rfl, rfl, rfl⟩ := H
    go_enter Try.func111, Try.ntmps111
    go_wp2_with (first | ((with_reducible refine gate_callee (f := 118) rfl ?_); refine goesL_ (some 4) rfl rfl Try.func118 (by kernel_rfl) rfl #[.pointer (some ⟨g, 0, none⟩), .int .i64 15] rfl (by (try simp only [List.map_toArray, List.map_cons, List.map_nil]); first | done | rfl | (simp only [List.length_drop, List.length_take]; rfl)) ?_; (with_reducible refine (spec_l1Once.calls g s0_0 s0_1 s0_2 15 false t238 t239 w0 _ ?side1 ?side2 A2.out).mono ?_); (case side1 => repeat (first | (with_reducible first | exact HI0.out | apply IsS78.alloc | apply IsS78.drewN | apply IsS78.drew | apply IsS78.set_1 | apply IsS78.set_2) | exact HI0.out)); (case side2 => repeat (first | (with_reducible first | exact HB.out | apply below_alloc | apply pw_below_drewN | apply below_drew1 | refine below_set ?_ (IsS78.ge HI0.out)) | exact HB.out)); rintro e w11 ⟨rfl, hi, hb, hk⟩; refine ⟨_, rfl, ?_⟩; have n0_ := Aside0.mk (KeepBut.trans (by repeat (first | (with_reducible first | exact HK.out | apply KeepBut.set_ | apply keep_drewN | apply keep_drew | apply keep_alloc) | exact HK.out)) hk (.inl rfl)); have n1_ := Aside0.mk (hb); have n2_ := Aside0.mk (hi); clear HK; clear HB; clear HI0; have HK := n0_; have HB := n1_; have HI0 := n2_; clear n0_ n1_ n2_; (try clear hb); (try clear hb2); (try clear hk); (try clear hi)) | ((with_reducible refine gate_callee (f := 119) rfl ?_); refine goesL_ (some 9) rfl rfl Try.func119 (by kernel_rfl) rfl #[.pointer (some ⟨g, 0, none⟩)] rfl (by (try simp only [List.map_toArray, List.map_cons, List.map_nil]); first | done | rfl | (simp only [List.length_drop, List.length_take]; rfl)) ?_; (with_reducible refine (spec_l1DrawNum.calls g s0_0 t238 t239 t246 t247 t248 w0 _ ?side1 ?side2 A10.out).mono ?_); (case side1 => repeat (first | (with_reducible first | exact HI0.out | apply IsS78.alloc | apply IsS78.drewN | apply IsS78.drew | apply IsS78.set_1 | apply IsS78.set_2) | exact HI0.out)); (case side2 => repeat (first | (with_reducible first | exact HB.out | apply below_alloc | apply pw_below_drewN | apply below_drew1 | refine below_set ?_ (IsS78.ge HI0.out)) | exact HB.out)); rintro e w12 ⟨rfl, hi, hb, hk⟩; refine ⟨_, rfl, ?_⟩; have n0_ := Aside0.mk (KeepBut.trans (by repeat (first | (with_reducible first | exact HK.out | apply KeepBut.set_ | apply keep_drewN | apply keep_drew | apply keep_alloc) | exact HK.out)) hk (.inl rfl)); have n1_ := Aside0.mk (hb); have n2_ := Aside0.mk (hi); clear HK; clear HB; clear HI0; have HK := n0_; have HB := n1_; have HI0 := n2_; clear n0_ n1_ n2_; (try clear hb); (try clear hb2); (try clear hk); (try clear hi)))
    go_ret
    exact ⟨by first | rfl | (simp [errW_none, errW_some] <;> rfl) | (simp [*, errW_none, errW_some] <;> rfl), by repeat (first | (with_reducible first | exact HI0.out | apply IsS78.alloc | apply IsS78.drewN | apply IsS78.drew | apply IsS78.set_1 | apply IsS78.set_2) | exact HI0.out), by repeat (first | (with_reducible first | exact HB.out | apply below_alloc | apply pw_below_drewN | apply below_drew1 | refine below_set ?_ (IsS78.ge HI0.out)) | exact HB.out), by repeat (first | (with_reducible first | exact HK.out | apply KeepBut.set_ | apply keep_drewN | apply keep_drew | apply keep_alloc) | exact HK.out)⟩

end Go.Proofs.Ytcnbajdnlkcjjaa.PFnRows
