/- The walk of what a law reaches, for the law's row: written by a program of this session; it has no condition of its own. -/
import Derived.Test.YtnpcjppcoejgmaaProg
import Derived.Below
import Derived.Deep.Draws
import Derived.Deep.AppendLies
import Derived.Maps.AppendAt
import Derived.OwnWalk
import Derived.Laws.BytesArg
import Derived.Laws.MakeOwn
import Derived.Laws.OwnMore
import Derived.Deep.OwnRows
import Derived.Tactics
import Derived.Lib.ConvBytes
import Derived.Laws.Slices
import Derived.WalkKit
import Derived.KernelRfl
import Derived.RowKit3
import Derived.Deep.LoopGhost
import Derived.Deep.QuietTactic
import Derived.BigQuiet
import Derived.WideLaws
import Derived.Deep.DeepCutAuto
import Derived.Deep.CutBlock
import Derived.Deep.RegionHeld3
import Derived.Laws.Rows
import Derived.Lib.AppendStr
import Derived.ArgAppend
import Derived.Laws.IdiomCopy
import Derived.OrdersHeld
import Derived.Laws.BitsLemmas
import Derived.RowKit
import Derived.Test.YtnpcjppcoejgmaaWWords
import Derived.Test.YtnpcjppcoejgmaaWLast
import Derived.Test.YtnpcjppcoejgmaaWTab
import Derived.Test.YtnpcjppcoejgmaaWFour
import Derived.Test.YtnpcjppcoejgmaaWQPut
import Derived.Test.YtnpcjppcoejgmaaWApart
import Derived.Test.YtnpcjppcoejgmaaWArr
import Derived.Test.YtnpcjppcoejgmaaWZeros
import Derived.Test.YtnpcjppcoejgmaaWFoot
import Derived.Test.YtnpcjppcoejgmaaWKept
import Derived.Test.YtnpcjppcoejgmaaWShare
import Derived.Test.YtnpcjppcoejgmaaWN
import Derived.Test.YtnpcjppcoejgmaaWFootNe
import Derived.Test.YtnpcjppcoejgmaaWAt
import Derived.Test.YtnpcjppcoejgmaaWEqStruct
import Derived.Test.YtnpcjppcoejgmaaWRepsOne
import Derived.Test.YtnpcjppcoejgmaaWInv
import Derived.Test.YtnpcjppcoejgmaaWInvWords
import Derived.Test.YtnpcjppcoejgmaaWGuard
import Derived.Test.YtnpcjppcoejgmaaWNEv
import Derived.Test.YtnpcjppcoejgmaaWMore
namespace Go.Proofs.Ytnpcjppcoejgmaa.PFnExactRows
open Go.RowKit Go.Proofs.YtnpcjppcoejgmaaW.PrintWords Go.Proofs.YtnpcjppcoejgmaaW.PrintLast Go.Proofs.YtnpcjppcoejgmaaW.PrintMore
attribute [local go_sem] max2_int min2_int max_two min_two max_three min_three max_four min_four   -- for this text's walks alone
set_option linter.unusedVariables false
set_option linter.unusedSimpArgs false



def errW : Option Int → Value
 | none => .nilIface
 | some c => .iface 0 (.int .i64 c)
theorem errW_none : errW none = .nilIface := rfl
theorem errW_some (c : Int) : errW (some c) = .iface 0 (.int .i64 c) := rfl

theorem info3 : (Try.prog.info? 3).map (fun i => (i.zero, i.size, i.bytes)) = some (some (.int .i64 0), 1, 8) := by kernel_rfl
theorem info28 : (Try.prog.info? 28).map (fun i => (i.zero, i.size, i.bytes)) = some (some (.agg #[(.slice none 0 0), (.slice none 0 0)]), 2, 48) := by kernel_rfl
-- the values' own types
def rd_L1 (xs : List (List Int)) (i : Int) : (List Int) := xs.getD i.toNat ([] : List Int)
theorem at_L1 {w : World} {A : Option Addr} {n : Nat} {xs : List (List Int)} (h : Kd.C (Kd.slice 3 (Kd.int .i64)) w A n xs) (i : Int) (h0 : 0 ≤ i) (h1 : i < n) : ∃ ad A0 c0, A = some ad ∧ w.cell? (ad.add i.toNat) = some (.slice A0 (rd_L1 xs i).length c0) ∧ (rd_L1 xs i).length ≤ c0 ∧ (Kd.int .i64).C w A0 (rd_L1 xs i).length (rd_L1 xs i) := by
 obtain ⟨ad, c, e, _, hK, hc0⟩ := Kd.C_get h ([] : List Int) i h0 h1
 have hc : ∀ j u, c[j]? = some u → w.cell? (ad.add (i.toNat * 1 + j)) = some u := hc0
 obtain ⟨A0, c0, rfl, l0, g0⟩ := hK
 exact ⟨ad, A0, c0, e, by have hq := hc 0 _ rfl; rwa [Nat.mul_one, Nat.add_zero] at hq, l0, g0⟩

/-! #### struct type 28 -/
structure S28 where
 f0 : (List Int)
 f1 : (List Int)
def z28 : S28 := ⟨([] : List Int), ([] : List Int)⟩
def pairA {α β : Type} (a : Kd α) (b : Kd β) : Kd (α × β) where
  sz := a.sz + b.sz
  E := a.E ++ b.E
  K := fun w x cs => ∃ c0 c1, cs = c0 ++ c1 ∧ a.K w x.1 c0 ∧ b.K w x.2 c1
  M := fun w base ok x cs => ∃ c0 c1 ok0 ok1, cs = c0 ++ c1 ∧ (∀ k, ok0 k → ok k) ∧ (∀ k, ok1 k → ok k) ∧ (∀ k, ok0 k → ¬ ok1 k) ∧ a.M w base ok0 x.1 c0 ∧ b.M w base ok1 x.2 c1
  K_len := by
    rintro w x cs ⟨c0, c1, rfl, h0, h1⟩
    rw [List.length_append, a.K_len h0, b.K_len h1]
  K_one := by
    rintro w x cs ⟨c0, c1, rfl, h0, h1⟩ u hu
    rcases List.mem_append.1 hu with hu | hu
    · exact a.K_one h0 u hu
    · exact b.K_one h1 u hu
  K_below := by
    rintro w w1 x cs hb ⟨c0, c1, rfl, h0, h1⟩
    exact ⟨c0, c1, rfl, a.K_below hb h0, b.K_below hb h1⟩
  K_of_M := by
    rintro w base ok x cs ⟨c0, c1, _, _, rfl, _, _, _, h0, h1⟩
    exact ⟨c0, c1, rfl, a.K_of_M h0, b.K_of_M h1⟩
  M_mono := by
    rintro w base ok ok' x cs hok ⟨c0, c1, ok0, ok1, rfl, g0, g1, ga, h0, h1⟩
    exact ⟨c0, c1, ok0, ok1, rfl, fun k hk => hok k (g0 k hk), fun k hk => hok k (g1 k hk), ga, h0, h1⟩
  M_bound := by
    rintro w base ok x cs ⟨c0, c1, ok0, ok1, rfl, g0, g1, ga, h0, h1⟩
    refine ⟨c0, c1, _, _, rfl, ?_, ?_, ?_, a.M_bound h0, b.M_bound h1⟩
    · rintro k ⟨h2, h3, h4, q, hq, hc⟩
      exact ⟨g0 k h2, h3, h4, q, List.mem_append_left _ hq, hc⟩
    · rintro k ⟨h2, h3, h4, q, hq, hc⟩
      exact ⟨g1 k h2, h3, h4, q, List.mem_append_right _ hq, hc⟩
    · intro k hk hk1
      exact ga k hk.1 hk1.1
  M_move := by
    rintro w w1 base ok x cs hm ⟨c0, c1, ok0, ok1, rfl, g0, g1, ga, h0, h1⟩
    exact ⟨c0, c1, ok0, ok1, rfl, g0, g1, ga, a.M_move (fun k hk => hm k (g0 k hk)) h0, b.M_move (fun k hk => hm k (g1 k hk)) h1⟩
  M_lower := by
    rintro w base base' ok x cs hb ⟨c0, c1, ok0, ok1, rfl, g0, g1, ga, h0, h1⟩
    exact ⟨c0, c1, ok0, ok1, rfl, g0, g1, ga, a.M_lower hb h0, b.M_lower hb h1⟩
def k28 : Kd S28 := Kd.iso (pairA (Kd.slice 3 (Kd.int .i64)) (Kd.slice 3 (Kd.int .i64))) (fun x : S28 => (x.f0, x.f1))
theorem k28_open {w : World} {x : S28} {cs : List Value} (h : k28.K w x cs) : ∃ A0 c0 A1 c1, cs = [.slice A0 x.f0.length c0, .slice A1 x.f1.length c1] ∧ x.f0.length ≤ c0 ∧ (Kd.int .i64).C w A0 x.f0.length x.f0 ∧ x.f1.length ≤ c1 ∧ (Kd.int .i64).C w A1 x.f1.length x.f1 := by
 obtain ⟨_, _, rfl, ⟨A0, c0, rfl, l0, g0⟩, ⟨A1, c1, rfl, l1, g1⟩⟩ := h
 exact ⟨A0, c0, A1, c1, rfl, l0, g0, l1, g1⟩
theorem k28_openM {w : World} {base : Nat} {ok : Nat → Prop} {x : S28} {cs : List Value} (h : k28.M w base ok x cs) : ∃ v0 v1, cs = [v0, v1] ∧ (Kd.int .i64).R 3 w base ok v0 x.f0 ∧ (Kd.int .i64).R 3 w base ok v1 x.f1 ∧ ∀ k_, v0.ownBlock = some k_ → v1.ownBlock = some k_ → False := by
 obtain ⟨_, _, ok0, ok1, rfl, g0, g1, ga, ⟨v0, rfl, h0⟩, ⟨v1, rfl, h1⟩⟩ := h
 exact ⟨v0, v1, rfl, Kd.R_mono h0 g0, Kd.R_mono h1 g1, fun k_ e0 e1 => ga k_ (h0.1 k_ e0) (h1.1 k_ e1)⟩
theorem k28_mk (w : World) (x : S28) {A0 : Option Addr} {c0 : Nat} (l0 : x.f0.length ≤ c0) (g0 : (Kd.int .i64).C w A0 x.f0.length x.f0) {A1 : Option Addr} {c1 : Nat} (l1 : x.f1.length ≤ c1) (g1 : (Kd.int .i64).C w A1 x.f1.length x.f1) : k28.K w x [.slice A0 x.f0.length c0, .slice A1 x.f1.length c1] := ⟨[.slice A0 x.f0.length c0], [.slice A1 x.f1.length c1], rfl, ⟨A0, c0, rfl, l0, g0⟩, ⟨A1, c1, rfl, l1, g1⟩⟩
theorem k28_mkM (w : World) (base : Nat) (ok : Nat → Prop) (x : S28) {v0 : Value} (g0 : (Kd.int .i64).R 3 w base ok v0 x.f0) {v1 : Value} (g1 : (Kd.int .i64).R 3 w base ok v1 x.f1) (hne : ∀ k_, v0.ownBlock = some k_ → v1.ownBlock = some k_ → False) : k28.M w base ok x [v0, v1] := ⟨[v0], [v1], fun k => some k = v0.ownBlock, fun k => some k = v1.ownBlock, rfl, fun k hk => g0.1 k hk.symm, fun k hk => g1.1 k hk.symm, fun k h0 h1 => hne k h0.symm h1.symm, ⟨v0, rfl, Kd.R_tight rfl g0⟩, ⟨v1, rfl, Kd.R_tight rfl g1⟩⟩
def rd_T28 (xs : List S28) (i : Int) : S28 := xs.getD i.toNat z28
theorem at_T28 {w : World} {A : Option Addr} {n : Nat} {xs : List S28} (h : Kd.C k28 w A n xs) (i : Int) (h0 : 0 ≤ i) (h1 : i < n) : ∃ ad A0 c0 A1 c1, A = some ad ∧ w.cell? (ad.add (i.toNat * 2)) = some (.slice A0 (rd_T28 xs i).f0.length c0) ∧ w.cell? ⟨(ad.add (i.toNat * 2)).block, (ad.add (i.toNat * 2)).off + 1, none⟩ = some (.slice A1 (rd_T28 xs i).f1.length c1) ∧ (rd_T28 xs i).f0.length ≤ c0 ∧ (Kd.int .i64).C w A0 (rd_T28 xs i).f0.length (rd_T28 xs i).f0 ∧ (rd_T28 xs i).f1.length ≤ c1 ∧ (Kd.int .i64).C w A1 (rd_T28 xs i).f1.length (rd_T28 xs i).f1 := by
 obtain ⟨ad, c, e, _, hK, hc0⟩ := Kd.C_get h z28 i h0 h1
 have hc : ∀ j u, c[j]? = some u → w.cell? (ad.add (i.toNat * 2 + j)) = some u := hc0
 obtain ⟨A0, c0, A1, c1, rfl, l0, g0, l1, g1⟩ := k28_open hK
 exact ⟨ad, A0, c0, A1, c1, e, hc 0 _ rfl, by rw [← add_field _ _ 1 (by omega)]; exact hc 1 _ rfl, l0, g0, l1, g1⟩

end Go.Proofs.Ytnpcjppcoejgmaa.PFnExactRows
