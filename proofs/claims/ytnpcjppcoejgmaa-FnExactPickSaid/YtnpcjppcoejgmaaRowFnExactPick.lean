/- The law FnExactPick answers true for each argument that the row's own reading takes: the given statement Rows.FnExactPickSaid. No condition beyond the row's. -/
import Derived.Test.YtnpcjppcoejgmaaRows
import Derived.Test.YtnpcjppcoejgmaaPFnExactPickx
import Derived.Test.YtnpcjppcoejgmaaPureFnExactPick
import Derived.WalkKit
import Derived.ProofKit
import Derived.OpenShut
import Derived.ShutString
import Derived.ChangeOld
import Derived.Below
import Derived.SizedLaws
import Derived.Lib.SmallJoins
import Derived.Test.YtnpcjppcoejgmaaWSized
namespace Go.Proofs.Ytnpcjppcoejgmaa.fnExactPick
open Go.ChangeShapes Go.WideShapes Go.ChangeAt Go.RowKit Go.Proofs.YtnpcjppcoejgmaaW.PrintWords Go.Proofs.YtnpcjppcoejgmaaW.PrintLast Go.Proofs.YtnpcjppcoejgmaaW.PrintMore
open Go.ChangeMaps (open_string shut_string)
set_option linter.unusedVariables false
set_option linter.unusedSimpArgs false
theorem own : ownKnob Try.prog.godebug = none := by kernel_rfl
theorem laidOut : laidOutB Try.prog = true := by kernel_rfl
def IsRow (k : IntKind) (w : World) (a : Option Addr) (len cap : Nat) (zs : List Int) : Prop :=
  (a = none ∧ len = 0 ∧ cap = 0 ∧ zs = []) ∨
  ∃ x, a = some x ∧ len ≤ cap ∧ cap ≤ maxLen ∧ zs.length = cap ∧ (∀ i, i < zs.length → w.cell? (x.add i) = some (.int k (zs.getD i 0))) ∧ ∀ n ∈ zs, (Lit.int k n).wf = true
theorem walk (a0_0 : Option Addr) (len0_0 cap0_0 : Nat) (z0_0 : List Int) (a0_1 : Option Addr) (len0_1 cap0_1 : Nat) (z0_1 : List Int) (a1_0 : Option Addr) (len1_0 cap1_0 : Nat) (z1_0 : List Int) (a1_1 : Option Addr) (len1_1 cap1_1 : Nat) (z1_1 : List Int) (w : World) (w0_0 : IsRow .i64 w a0_0 len0_0 cap0_0 z0_0) (w0_1 : IsRow .i64 w a0_1 len0_1 cap0_1 z0_1) (w1_0 : IsRow .i64 w a1_0 len1_0 cap1_0 z1_0) (w1_1 : IsRow .i64 w a1_1 len1_1 cap1_1 z1_1) :
    Calls Try.prog 4 #[.agg #[.slice a0_0 len0_0 cap0_0, .slice a0_1 len0_1 cap0_1], .agg #[.slice a1_0 len1_0 cap1_0, .slice a1_1 len1_1 cap1_1]] w fun e w' => e = .returned (.bool true) ∧ Below w.heap.size w w' := by
  obtain ⟨l0_0, rfl, hr0_0, hm0_0, hw0_0, hc0_0⟩ := ReadsInt.ofRowC w0_0
  obtain ⟨l0_1, rfl, hr0_1, hm0_1, hw0_1, hc0_1⟩ := ReadsInt.ofRowC w0_1
  obtain ⟨l1_0, rfl, hr1_0, hm1_0, hw1_0, hc1_0⟩ := ReadsInt.ofRowC w1_0
  obtain ⟨l1_1, rfl, hr1_1, hm1_1, hw1_1, hc1_1⟩ := ReadsInt.ofRowC w1_1
  obtain ⟨k, h⟩ := Pure.FnExactPick l0_0 l0_1 l1_0 l1_1 hm0_0 hw0_0 hm0_1 hw0_1 hm1_0 hw1_0 hm1_1 hw1_1
  refine (PFnExactPick.laws_FnExactPick.calls k _ _ l0_0 _ _ l0_1 _ _ l1_0 _ _ l1_1 true w (Kd.C_of_reads (d := (0 : Int)) (h1 := fun _ => rfl) hr0_0) hc0_0 (Kd.C_of_reads (d := (0 : Int)) (h1 := fun _ => rfl) hr0_1) hc0_1 (Kd.C_of_reads (d := (0 : Int)) (h1 := fun _ => rfl) hr1_0) hc1_0 (Kd.C_of_reads (d := (0 : Int)) (h1 := fun _ => rfl) hr1_1) hc1_1 h rfl).mono ?_
  rintro e w' ⟨rfl, hd⟩
  exact ⟨rfl, hd⟩
set_option maxRecDepth 100000 in
theorem lifted (os : Os) (started : os.Started) (H : Type) (enc : TypeId × Value → H) :
    ReturnsInHanded {} Try.checked os 4 .any (Rows.fnExactPickSpec.pre6 enc Try.prog Try.f4 Rows.fnExactPickRow.domain false) (Rows.fnExactPickSpec.post enc Try.prog Try.f4 false true false false) := by
  refine returnsInHanded_of_change_sized (C := Try.checked) own started (by kernel_rfl) Try.func4
    (ChangeSpec.witness6 (enc := enc) (C := Try.checked) false ⟨#[], #[.agg #[.slice none 0 0, .slice none 0 0], .agg #[.slice none 0 0, .slice none 0 0]], []⟩ 8 (by kernel_rfl) (by kernel_rfl) (by kernel_rfl) (by kernel_rfl)) ?_
  intro W base args ds gs before hval0 hW hcnd hsz0 _
  have hval : ∀ (j : Nat) t v, Try.f4.params[j]? = some t → args[j]? = some v → Value.okWide Try.prog W .any base t v := hval0
  have hW' := hW
  obtain ⟨p, q, hA0, hV, rfl, hfz, hnd⟩ := hW
  have hA : DataW.TrodAll enc Try.prog W 0 (fun _ => true) true Try.f4.params.toList args.toList ds p := hA0
  rw [Try.params4] at hA hval
  obtain ⟨v0, vs0, d0, ds0, p0, q0, hargs, rfl, rfl, h0, r0⟩ := trodAll_cons hA
  obtain ⟨v1, vs1, d1, ds1, p1, q1, rfl, rfl, rfl, h1, r1⟩ := trodAll_cons r0
  obtain ⟨rfl, rfl, rfl⟩ := trodAll_nil r1
  obtain rfl : args = #[v0, v1] := by cases args; simp_all
  obtain ⟨rfl, rfl⟩ := trodVars_none hV
  have k0 := h0
  have lt0 : ∀ x ∈ p0, x.block < W.heap.size := by obtain ⟨m, hm⟩ := k0; exact DataW.trod_lt m _ _ _ hm
  obtain ⟨u0_0, u0_1, y0_0, y0_1, m0, rfl, _, _, hf0_0, hf0_1⟩ := Go.Joins.open_agg2 Try.underlying24 (by kernel_rfl) (by kernel_rfl) (hval 0 24 v0 rfl rfl) h0
  have hg0_0 : DataW.trod enc Try.prog W 0 (fun _ => true) true m0 22 [u0_0] = some y0_0 := hf0_0
  obtain ⟨a0_0, len0_0, cap0_0, e0_0⟩ := Go.Joins.slice_form Try.underlying22 hg0_0
  obtain rfl := (List.cons.inj e0_0).1
  clear e0_0
  obtain ⟨z0_0, w0_0⟩ : ∃ zs, IsRow .i64 W a0_0 len0_0 cap0_0 zs := by
    rcases open_ints Try.underlying22 Try.underlying3 (by kernel_rfl) hg0_0 with ⟨hcs, _⟩ | ⟨x, l, c, zs, hcs, _, hl, hm, hz, _, hcell, hwz⟩
    · simp [Value.cells] at hcs
      obtain ⟨rfl, rfl, rfl⟩ := hcs
      exact ⟨[], .inl ⟨rfl, rfl, rfl, rfl⟩⟩
    · simp [Value.cells] at hcs
      obtain ⟨rfl, rfl, rfl⟩ := hcs
      exact ⟨zs, .inr ⟨_, rfl, hl, hm, by simpa using hz, hcell, hwz⟩⟩
  have hg0_1 : DataW.trod enc Try.prog W 0 (fun _ => true) true m0 22 [u0_1] = some y0_1 := hf0_1
  obtain ⟨a0_1, len0_1, cap0_1, e0_1⟩ := Go.Joins.slice_form Try.underlying22 hg0_1
  obtain rfl := (List.cons.inj e0_1).1
  clear e0_1
  obtain ⟨z0_1, w0_1⟩ : ∃ zs, IsRow .i64 W a0_1 len0_1 cap0_1 zs := by
    rcases open_ints Try.underlying22 Try.underlying3 (by kernel_rfl) hg0_1 with ⟨hcs, _⟩ | ⟨x, l, c, zs, hcs, _, hl, hm, hz, _, hcell, hwz⟩
    · simp [Value.cells] at hcs
      obtain ⟨rfl, rfl, rfl⟩ := hcs
      exact ⟨[], .inl ⟨rfl, rfl, rfl, rfl⟩⟩
    · simp [Value.cells] at hcs
      obtain ⟨rfl, rfl, rfl⟩ := hcs
      exact ⟨zs, .inr ⟨_, rfl, hl, hm, by simpa using hz, hcell, hwz⟩⟩
  have k1 := h1
  have lt1 : ∀ x ∈ p1, x.block < W.heap.size := by obtain ⟨m, hm⟩ := k1; exact DataW.trod_lt m _ _ _ hm
  obtain ⟨u1_0, u1_1, y1_0, y1_1, m1, rfl, _, _, hf1_0, hf1_1⟩ := Go.Joins.open_agg2 Try.underlying24 (by kernel_rfl) (by kernel_rfl) (hval 1 24 v1 rfl rfl) h1
  have hg1_0 : DataW.trod enc Try.prog W 0 (fun _ => true) true m1 22 [u1_0] = some y1_0 := hf1_0
  obtain ⟨a1_0, len1_0, cap1_0, e1_0⟩ := Go.Joins.slice_form Try.underlying22 hg1_0
  obtain rfl := (List.cons.inj e1_0).1
  clear e1_0
  obtain ⟨z1_0, w1_0⟩ : ∃ zs, IsRow .i64 W a1_0 len1_0 cap1_0 zs := by
    rcases open_ints Try.underlying22 Try.underlying3 (by kernel_rfl) hg1_0 with ⟨hcs, _⟩ | ⟨x, l, c, zs, hcs, _, hl, hm, hz, _, hcell, hwz⟩
    · simp [Value.cells] at hcs
      obtain ⟨rfl, rfl, rfl⟩ := hcs
      exact ⟨[], .inl ⟨rfl, rfl, rfl, rfl⟩⟩
    · simp [Value.cells] at hcs
      obtain ⟨rfl, rfl, rfl⟩ := hcs
      exact ⟨zs, .inr ⟨_, rfl, hl, hm, by simpa using hz, hcell, hwz⟩⟩
  have hg1_1 : DataW.trod enc Try.prog W 0 (fun _ => true) true m1 22 [u1_1] = some y1_1 := hf1_1
  obtain ⟨a1_1, len1_1, cap1_1, e1_1⟩ := Go.Joins.slice_form Try.underlying22 hg1_1
  obtain rfl := (List.cons.inj e1_1).1
  clear e1_1
  obtain ⟨z1_1, w1_1⟩ : ∃ zs, IsRow .i64 W a1_1 len1_1 cap1_1 zs := by
    rcases open_ints Try.underlying22 Try.underlying3 (by kernel_rfl) hg1_1 with ⟨hcs, _⟩ | ⟨x, l, c, zs, hcs, _, hl, hm, hz, _, hcell, hwz⟩
    · simp [Value.cells] at hcs
      obtain ⟨rfl, rfl, rfl⟩ := hcs
      exact ⟨[], .inl ⟨rfl, rfl, rfl, rfl⟩⟩
    · simp [Value.cells] at hcs
      obtain ⟨rfl, rfl, rfl⟩ := hcs
      exact ⟨zs, .inr ⟨_, rfl, hl, hm, by simpa using hz, hcell, hwz⟩⟩
  clear hA0 hval0 hsz0
  refine (walk a0_0 len0_0 cap0_0 z0_0 a0_1 len0_1 cap0_1 z0_1 a1_0 len1_0 cap1_0 z1_0 a1_1 len1_1 cap1_1 z1_1 W w0_0 w0_1 w1_0 w1_1).mono fun e W' ⟨he, bel⟩ => ?_
  subst he
  exact ⟨_, rfl, _, _, _, [], _, [], hW', trodAll_mk1 (shut_bool Try.underlying4 _), (trodAll_cons_mk (Below.trod laidOut (by kernel_rfl) (of_decide_eq_true (by kernel_rfl)) k0 bel lt0) (trodAll_cons_mk (Below.trod laidOut (by kernel_rfl) (of_decide_eq_true (by kernel_rfl)) k1 bel lt1) trodAll_mk0)), rfl, bel.frame _, fun h => by cases h⟩
theorem over : Rows.fnExactPickRow.holds Try.pinned (OpenSpec.ofChange Rows.fnExactPickSpec) :=
  OpenClaim.holds_of_wide 4 Try.f4 rfl rfl rfl rfl rfl rfl rfl ⟨rfl, rfl, rfl, rfl, rfl⟩ rfl rfl rfl rfl rfl (by kernel_rfl) Try.func4 (by kernel_rfl)
    (of_decide_eq_true (by kernel_rfl)) (by unfold Func.isWrapper; first | (rw [if_pos (by decide +kernel)]; kernel_rfl) | (rw [if_neg (by decide +kernel)]; exact ⟨rfl, rfl⟩))
    (fun os started H enc _ => lifted os started H enc)
theorem proved : Rows.FnExactPickSaid := over
#print axioms proved
end Go.Proofs.Ytnpcjppcoejgmaa.fnExactPick
namespace Go.Proofs.Ytnpcjppcoejgmaa
/-- The row, under a short name, for the claim. -/
theorem fnExactPick_holds : Rows.FnExactPickSaid := fnExactPick.proved
end Go.Proofs.Ytnpcjppcoejgmaa
