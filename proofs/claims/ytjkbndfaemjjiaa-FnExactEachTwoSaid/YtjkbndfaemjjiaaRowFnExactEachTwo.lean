/- The law FnExactEachTwo answers true for each argument that the row's own reading takes: the given statement Rows.FnExactEachTwoSaid. No condition beyond the row's. -/
import Derived.Test.YtjkbndfaemjjiaaRows
import Derived.Test.YtjkbndfaemjjiaaPFnExactEachTwox
import Derived.Test.YtjkbndfaemjjiaaPureFnExactEachTwo
import Derived.WalkKit
import Derived.ProofKit
import Derived.OpenShut
import Derived.ShutString
import Derived.ChangeOld
import Derived.Below
import Derived.SizedLaws
import Derived.Lib.SmallJoins
import Derived.Test.YtjkbndfaemjjiaaWSized
namespace Go.Proofs.Ytjkbndfaemjjiaa.fnExactEachTwo
open Go.ChangeShapes Go.WideShapes Go.ChangeAt Go.RowKit Go.Proofs.YtjkbndfaemjjiaaW.PrintWords Go.Proofs.YtjkbndfaemjjiaaW.PrintLast Go.Proofs.YtjkbndfaemjjiaaW.PrintMore
open Go.ChangeMaps (open_string shut_string)
set_option linter.unusedVariables false
set_option linter.unusedSimpArgs false
theorem own : ownKnob Try.prog.godebug = none := by kernel_rfl
theorem laidOut : laidOutB Try.prog = true := by kernel_rfl
def IsRow (k : IntKind) (w : World) (a : Option Addr) (len cap : Nat) (zs : List Int) : Prop :=
  (a = none ∧ len = 0 ∧ cap = 0 ∧ zs = []) ∨
  ∃ x, a = some x ∧ len ≤ cap ∧ cap ≤ maxLen ∧ zs.length = cap ∧ (∀ i, i < zs.length → w.cell? (x.add i) = some (.int k (zs.getD i 0))) ∧ ∀ n ∈ zs, (Lit.int k n).wf = true
theorem walk (a0 : Int) (a1_0 : Option Addr) (len1_0 cap1_0 : Nat) (z1_0 : List Int) (a1_1 : Option Addr) (len1_1 cap1_1 : Nat) (z1_1 : List Int) (a2_0 : Option Addr) (len2_0 cap2_0 : Nat) (z2_0 : List Int) (a2_1 : Option Addr) (len2_1 cap2_1 : Nat) (z2_1 : List Int) (w : World) (w0 : (Lit.int .i64 a0).wf = true) (w1_0 : IsRow .i64 w a1_0 len1_0 cap1_0 z1_0) (w1_1 : IsRow .i64 w a1_1 len1_1 cap1_1 z1_1) (w2_0 : IsRow .i64 w a2_0 len2_0 cap2_0 z2_0) (w2_1 : IsRow .i64 w a2_1 len2_1 cap2_1 z2_1) :
    Calls Try.prog 3 #[.int .i64 a0, .agg #[.slice a1_0 len1_0 cap1_0, .slice a1_1 len1_1 cap1_1], .agg #[.slice a2_0 len2_0 cap2_0, .slice a2_1 len2_1 cap2_1]] w fun e w' => e = .returned (.bool true) ∧ Below w.heap.size w w' := by
  obtain ⟨l1_0, rfl, hr1_0, hm1_0, hw1_0, hc1_0⟩ := ReadsInt.ofRowC w1_0
  obtain ⟨l1_1, rfl, hr1_1, hm1_1, hw1_1, hc1_1⟩ := ReadsInt.ofRowC w1_1
  obtain ⟨l2_0, rfl, hr2_0, hm2_0, hw2_0, hc2_0⟩ := ReadsInt.ofRowC w2_0
  obtain ⟨l2_1, rfl, hr2_1, hm2_1, hw2_1, hc2_1⟩ := ReadsInt.ofRowC w2_1
  obtain ⟨k, h⟩ := Pure.FnExactEachTwo a0 l1_0 l1_1 l2_0 l2_1 w0 hm1_0 hw1_0 hm1_1 hw1_1 hm2_0 hw2_0 hm2_1 hw2_1
  refine (PFnExactEachTwo.laws_FnExactEachTwo.calls k a0 _ _ l1_0 _ _ l1_1 _ _ l2_0 _ _ l2_1 true w (Kd.C_of_reads (d := (0 : Int)) (h1 := fun _ => rfl) hr1_0) hc1_0 (Kd.C_of_reads (d := (0 : Int)) (h1 := fun _ => rfl) hr1_1) hc1_1 (Kd.C_of_reads (d := (0 : Int)) (h1 := fun _ => rfl) hr2_0) hc2_0 (Kd.C_of_reads (d := (0 : Int)) (h1 := fun _ => rfl) hr2_1) hc2_1 h rfl).mono ?_
  rintro e w' ⟨rfl, hd⟩
  exact ⟨rfl, hd⟩
set_option maxRecDepth 100000 in
theorem lifted (os : Os) (started : os.Started) (H : Type) (enc : TypeId × Value → H) :
    ReturnsInHanded {} Try.checked os 3 .any (Rows.fnExactEachTwoSpec.pre6 enc Try.prog Try.f3 Rows.fnExactEachTwoRow.domain false) (Rows.fnExactEachTwoSpec.post enc Try.prog Try.f3 false true false false) := by
  refine returnsInHanded_of_change_sized (C := Try.checked) own started (by kernel_rfl) Try.func3
    (ChangeSpec.witness6 (enc := enc) (C := Try.checked) false ⟨#[], #[.int .i64 0, .agg #[.slice none 0 0, .slice none 0 0], .agg #[.slice none 0 0, .slice none 0 0]], []⟩ 8 (by kernel_rfl) (by kernel_rfl) (by kernel_rfl) (by kernel_rfl)) ?_
  intro W base args ds gs before hval0 hW hcnd hsz0 _
  have hval : ∀ (j : Nat) t v, Try.f3.params[j]? = some t → args[j]? = some v → Value.okWide Try.prog W .any base t v := hval0
  have hW' := hW
  obtain ⟨p, q, hA0, hV, rfl, hfz, hnd⟩ := hW
  have hA : DataW.TrodAll enc Try.prog W 0 (fun _ => true) true Try.f3.params.toList args.toList ds p := hA0
  rw [Try.params3] at hA hval
  obtain ⟨v0, vs0, d0, ds0, p0, q0, hargs, rfl, rfl, h0, r0⟩ := trodAll_cons hA
  obtain ⟨v1, vs1, d1, ds1, p1, q1, rfl, rfl, rfl, h1, r1⟩ := trodAll_cons r0
  obtain ⟨v2, vs2, d2, ds2, p2, q2, rfl, rfl, rfl, h2, r2⟩ := trodAll_cons r1
  obtain ⟨rfl, rfl, rfl⟩ := trodAll_nil r2
  obtain rfl : args = #[v0, v1, v2] := by cases args; simp_all
  obtain ⟨rfl, rfl⟩ := trodVars_none hV
  obtain ⟨a0, rfl, rfl, rfl, w0⟩ := open_int Try.underlying3 (hval 0 3 v0 rfl rfl) h0
  have k1 := h1
  have lt1 : ∀ x ∈ p1, x.block < W.heap.size := by obtain ⟨m, hm⟩ := k1; exact DataW.trod_lt m _ _ _ hm
  obtain ⟨u1_0, u1_1, y1_0, y1_1, m1, rfl, _, _, hf1_0, hf1_1⟩ := Go.Joins.open_agg2 Try.underlying24 (by kernel_rfl) (by kernel_rfl) (hval 1 24 v1 rfl rfl) h1
  have hg1_0 : DataW.trod enc Try.prog W 0 (fun _ => true) true m1 22 [u1_0] = some y1_0 := hf1_0
  obtain ⟨a1_0, len1_0, cap1_0, e1_0⟩ := Go.Joins.slice_form Try.underlying22 hg1_0
  obtain rfl := (List.cons.inj e1_0).1
  clear e1_0
  obtain ⟨z1_0, w1_0⟩ : ∃ zs, IsRow .i64 W a1_0 len1_0 cap1_0 zs := by
    rcases open_ints Try.underlying22 Try.underlying3 (by kernel_rfl) hg1_0 with ⟨hcs, _⟩ | ⟨x, l, c, zs, hcs, _, hl, hm, hz, _, hcell, hwz⟩
    · simp [Value.cells] at hcs
      obtain ⟨rfl, rfl, rfl⟩ := hcs
      exact ⟨[], .inl ⟨rfl, rfl, rfl, rfl⟩⟩
    · simp [Value.cells] at hcs
      obtain ⟨rfl, rfl, rfl⟩ := hcs
      exact ⟨zs, .inr ⟨_, rfl, hl, hm, by simpa using hz, hcell, hwz⟩⟩
  have hg1_1 : DataW.trod enc Try.prog W 0 (fun _ => true) true m1 22 [u1_1] = some y1_1 := hf1_1
  obtain ⟨a1_1, len1_1, cap1_1, e1_1⟩ := Go.Joins.slice_form Try.underlying22 hg1_1
  obtain rfl := (List.cons.inj e1_1).1
  clear e1_1
  obtain ⟨z1_1, w1_1⟩ : ∃ zs, IsRow .i64 W a1_1 len1_1 cap1_1 zs := by
    rcases open_ints Try.underlying22 Try.underlying3 (by kernel_rfl) hg1_1 with ⟨hcs, _⟩ | ⟨x, l, c, zs, hcs, _, hl, hm, hz, _, hcell, hwz⟩
    · simp [Value.cells] at hcs
      obtain ⟨rfl, rfl, rfl⟩ := hcs
      exact ⟨[], .inl ⟨rfl, rfl, rfl, rfl⟩⟩
    · simp [Value.cells] at hcs
      obtain ⟨rfl, rfl, rfl⟩ := hcs
      exact ⟨zs, .inr ⟨_, rfl, hl, hm, by simpa using hz, hcell, hwz⟩⟩
  have k2 := h2
  have lt2 : ∀ x ∈ p2, x.block < W.heap.size := by obtain ⟨m, hm⟩ := k2; exact DataW.trod_lt m _ _ _ hm
  obtain ⟨u2_0, u2_1, y2_0, y2_1, m2, rfl, _, _, hf2_0, hf2_1⟩ := Go.Joins.open_agg2 Try.underlying24 (by kernel_rfl) (by kernel_rfl) (hval 2 24 v2 rfl rfl) h2
  have hg2_0 : DataW.trod enc Try.prog W 0 (fun _ => true) true m2 22 [u2_0] = some y2_0 := hf2_0
  obtain ⟨a2_0, len2_0, cap2_0, e2_0⟩ := Go.Joins.slice_form Try.underlying22 hg2_0
  obtain rfl := (List.cons.inj e2_0).1
  clear e2_0
  obtain ⟨z2_0, w2_0⟩ : ∃ zs, IsRow .i64 W a2_0 len2_0 cap2_0 zs := by
    rcases open_ints Try.underlying22 Try.underlying3 (by kernel_rfl) hg2_0 with ⟨hcs, _⟩ | ⟨x, l, c, zs, hcs, _, hl, hm, hz, _, hcell, hwz⟩
    · simp [Value.cells] at hcs
      obtain ⟨rfl, rfl, rfl⟩ := hcs
      exact ⟨[], .inl ⟨rfl, rfl, rfl, rfl⟩⟩
    · simp [Value.cells] at hcs
      obtain ⟨rfl, rfl, rfl⟩ := hcs
      exact ⟨zs, .inr ⟨_, rfl, hl, hm, by simpa using hz, hcell, hwz⟩⟩
  have hg2_1 : DataW.trod enc Try.prog W 0 (fun _ => true) true m2 22 [u2_1] = some y2_1 := hf2_1
  obtain ⟨a2_1, len2_1, cap2_1, e2_1⟩ := Go.Joins.slice_form Try.underlying22 hg2_1
  obtain rfl := (List.cons.inj e2_1).1
  clear e2_1
  obtain ⟨z2_1, w2_1⟩ : ∃ zs, IsRow .i64 W a2_1 len2_1 cap2_1 zs := by
    rcases open_ints Try.underlying22 Try.underlying3 (by kernel_rfl) hg2_1 with ⟨hcs, _⟩ | ⟨x, l, c, zs, hcs, _, hl, hm, hz, _, hcell, hwz⟩
    · simp [Value.cells] at hcs
      obtain ⟨rfl, rfl, rfl⟩ := hcs
      exact ⟨[], .inl ⟨rfl, rfl, rfl, rfl⟩⟩
    · simp [Value.cells] at hcs
      obtain ⟨rfl, rfl, rfl⟩ := hcs
      exact ⟨zs, .inr ⟨_, rfl, hl, hm, by simpa using hz, hcell, hwz⟩⟩
  clear hA0 hval0 hsz0
  refine (walk a0 a1_0 len1_0 cap1_0 z1_0 a1_1 len1_1 cap1_1 z1_1 a2_0 len2_0 cap2_0 z2_0 a2_1 len2_1 cap2_1 z2_1 W w0 w1_0 w1_1 w2_0 w2_1).mono fun e W' ⟨he, bel⟩ => ?_
  subst he
  exact ⟨_, rfl, _, _, _, [], _, [], hW', trodAll_mk1 (shut_bool Try.underlying4 _), (trodAll_cons_mk (shut_int Try.underlying3 w0) (trodAll_cons_mk (Below.trod laidOut (by kernel_rfl) (of_decide_eq_true (by kernel_rfl)) k1 bel lt1) (trodAll_cons_mk (Below.trod laidOut (by kernel_rfl) (of_decide_eq_true (by kernel_rfl)) k2 bel lt2) trodAll_mk0))), rfl, bel.frame _, fun h => by cases h⟩
theorem over : Rows.fnExactEachTwoRow.holds Try.pinned (OpenSpec.ofChange Rows.fnExactEachTwoSpec) :=
  OpenClaim.holds_of_wide 3 Try.f3 rfl rfl rfl rfl rfl rfl rfl ⟨rfl, rfl, rfl, rfl, rfl⟩ rfl rfl rfl rfl rfl (by kernel_rfl) Try.func3 (by kernel_rfl)
    (of_decide_eq_true (by kernel_rfl)) (by unfold Func.isWrapper; first | (rw [if_pos (by decide +kernel)]; kernel_rfl) | (rw [if_neg (by decide +kernel)]; exact ⟨rfl, rfl⟩))
    (fun os started H enc _ => lifted os started H enc)
theorem proved : Rows.FnExactEachTwoSaid := over
#print axioms proved
end Go.Proofs.Ytjkbndfaemjjiaa.fnExactEachTwo
namespace Go.Proofs.Ytjkbndfaemjjiaa
/-- The row, under a short name, for the claim. -/
theorem fnExactEachTwo_holds : Rows.FnExactEachTwoSaid := fnExactEachTwo.proved
end Go.Proofs.Ytjkbndfaemjjiaa
