/-
  No cell of these rows narrows 'for every input' (looked for: loops, veiled, ifaces, maps, wideKeys, modest, calm, conditions, laid).
  DERIVED. THE GIVEN ROWS OF THIS SEAT. 5 by the template 'for every input the law returns true; each argument reads behind the call as it read before'; 0 by the template 'total and deterministic' (their statements: YtndmfjgdibklkaaTotals.lean).
  GIVEN WITH THE SEED: the statements are not yours to turn. If you find one false, say at which input.
  Laid BY PROGRAM, IN A SANDBOX (cutbox-rows.mjs): the forced cells as the released guide's own fill.sh prints them over the translation 3e98402a1f5c0c42… (all of the seat's roots in one cut). By AI agents, Wed Nov 11 2026. No macro, syntax, notation, axiom, sorry.
-/
import Derived.Test.YtndmfjgdibklkaaChecked
import GoSem.Claim
import GoSem.ClaimJoined
import GoSem.ClaimMapViews
import Derived.JoinedTies
import Derived.KernelRfl
namespace Go.Proofs.Ytndmfjgdibklkaa
/- THE CELL 'sum', in the pinned program and in every row, IS THE sha256 OF THE DUMP (.gsa) THAT YtndmfjgdibklkaaProg.lean LOADS. Nothing in Lean hashes anything: it is a label: what it is worth is what the hold of that sum in a sandbox is worth. -/
noncomputable def Try.pinned : Pinned := { name := "ytndmfjgdibklkaa", sum := "3e98402a1f5c0c429bb6c5c0b2c4ba867f3d9a61f32855879da82f6f1f0dfe10", checked := Try.checked }
namespace Rows
def none {H : Type} : Left H := { results := [], args := [] }

/-- 'laws.FnExactConstants': WHATEVER THE INPUT: true; the input reads as it did. -/
def fnExactConstantsSpec : ChangeSpec := { name := "fnExactConstants", fn := fun _ => fun
  | [] => { results := [.lit (.bool true)], args := [] }
  | _ => none }
def fnExactConstantsRow : OpenClaim := { program := "ytndmfjgdibklkaa", sum := "3e98402a1f5c0c429bb6c5c0b2c4ba867f3d9a61f32855879da82f6f1f0dfe10", func := "loop.example/g00182/laws.FnExactConstants", spec := "fnExactConstants", apart := false }
def FnExactConstantsSaid : Prop := fnExactConstantsRow.holds Try.pinned (OpenSpec.ofChange fnExactConstantsSpec)

/-- ITS FALSE NEIGHBOUR: 'it returns false'. Refute it at one input. -/
def fnExactConstantsWrong : ChangeSpec := { name := "fnExactConstants", fn := fun _ => fun
  | [] => { results := [.lit (.bool false)], args := [] }
  | _ => none }
def FnExactConstantsWrongFalsely : Prop := fnExactConstantsRow.holds Try.pinned (OpenSpec.ofChange fnExactConstantsWrong)

/-- 'laws.FnExactNumOk': WHATEVER THE INPUT: true; the input reads as it did. -/
def fnExactNumOkSpec : ChangeSpec := { name := "fnExactNumOk", fn := fun _ => fun
  | [d] => { results := [.lit (.bool true)], args := [d] }
  | _ => none }
def fnExactNumOkRow : OpenClaim := { program := "ytndmfjgdibklkaa", sum := "3e98402a1f5c0c429bb6c5c0b2c4ba867f3d9a61f32855879da82f6f1f0dfe10", func := "loop.example/g00182/laws.FnExactNumOk", spec := "fnExactNumOk", apart := false }
def FnExactNumOkSaid : Prop := fnExactNumOkRow.holds Try.pinned (OpenSpec.ofChange fnExactNumOkSpec)

/-- ITS FALSE NEIGHBOUR: 'it returns false'. Refute it at one input. -/
def fnExactNumOkWrong : ChangeSpec := { name := "fnExactNumOk", fn := fun _ => fun
  | [d] => { results := [.lit (.bool false)], args := [d] }
  | _ => none }
def FnExactNumOkWrongFalsely : Prop := fnExactNumOkRow.holds Try.pinned (OpenSpec.ofChange fnExactNumOkWrong)

/-- 'laws.FnExactNeutral': WHATEVER THE INPUT: true; the input reads as it did. -/
def fnExactNeutralSpec : ChangeSpec := { name := "fnExactNeutral", fn := fun _ => fun
  | [d] => { results := [.lit (.bool true)], args := [d] }
  | _ => none }
def fnExactNeutralRow : OpenClaim := { program := "ytndmfjgdibklkaa", sum := "3e98402a1f5c0c429bb6c5c0b2c4ba867f3d9a61f32855879da82f6f1f0dfe10", func := "loop.example/g00182/laws.FnExactNeutral", spec := "fnExactNeutral", apart := false }
def FnExactNeutralSaid : Prop := fnExactNeutralRow.holds Try.pinned (OpenSpec.ofChange fnExactNeutralSpec)

/-- ITS FALSE NEIGHBOUR: 'it returns false'. Refute it at one input. -/
def fnExactNeutralWrong : ChangeSpec := { name := "fnExactNeutral", fn := fun _ => fun
  | [d] => { results := [.lit (.bool false)], args := [d] }
  | _ => none }
def FnExactNeutralWrongFalsely : Prop := fnExactNeutralRow.holds Try.pinned (OpenSpec.ofChange fnExactNeutralWrong)

/-- 'laws.FnExactSizeOf': WHATEVER THE INPUT: true; the input reads as it did. -/
def fnExactSizeOfSpec : ChangeSpec := { name := "fnExactSizeOf", fn := fun _ => fun
  | [d] => { results := [.lit (.bool true)], args := [d] }
  | _ => none }
def fnExactSizeOfRow : OpenClaim := { program := "ytndmfjgdibklkaa", sum := "3e98402a1f5c0c429bb6c5c0b2c4ba867f3d9a61f32855879da82f6f1f0dfe10", func := "loop.example/g00182/laws.FnExactSizeOf", spec := "fnExactSizeOf", apart := false }
def FnExactSizeOfSaid : Prop := fnExactSizeOfRow.holds Try.pinned (OpenSpec.ofChange fnExactSizeOfSpec)

/-- ITS FALSE NEIGHBOUR: 'it returns false'. Refute it at one input. -/
def fnExactSizeOfWrong : ChangeSpec := { name := "fnExactSizeOf", fn := fun _ => fun
  | [d] => { results := [.lit (.bool false)], args := [d] }
  | _ => none }
def FnExactSizeOfWrongFalsely : Prop := fnExactSizeOfRow.holds Try.pinned (OpenSpec.ofChange fnExactSizeOfWrong)

/-- 'laws.FnExactShapeOk': WHATEVER THE INPUT: true; the input reads as it did. -/
def fnExactShapeOkSpec : ChangeSpec := { name := "fnExactShapeOk", fn := fun _ => fun
  | [d] => { results := [.lit (.bool true)], args := [d] }
  | _ => none }
def fnExactShapeOkRow : OpenClaim := { program := "ytndmfjgdibklkaa", sum := "3e98402a1f5c0c429bb6c5c0b2c4ba867f3d9a61f32855879da82f6f1f0dfe10", func := "loop.example/g00182/laws.FnExactShapeOk", spec := "fnExactShapeOk", apart := false }
def FnExactShapeOkSaid : Prop := fnExactShapeOkRow.holds Try.pinned (OpenSpec.ofChange fnExactShapeOkSpec)

/-- ITS FALSE NEIGHBOUR: 'it returns false'. Refute it at one input. -/
def fnExactShapeOkWrong : ChangeSpec := { name := "fnExactShapeOk", fn := fun _ => fun
  | [d] => { results := [.lit (.bool false)], args := [d] }
  | _ => none }
def FnExactShapeOkWrongFalsely : Prop := fnExactShapeOkRow.holds Try.pinned (OpenSpec.ofChange fnExactShapeOkWrong)

/- THE SECOND FORM. 'bulk': how many values and letters a reading holds, each counted each time it is reached (what is shared counts as often as it is met; a slice's spare places count too). A statement '..UptoSaid' is the law's where the arguments, and the package variables that the reading takes, are together of bulk at most 1048576: NARROWER than '..Said'. Prove '..Said' where nothing that the law and all that it calls make is longer than what came in: it says more and counts as full. Else prove '..UptoSaid'. A law counts once. -/
mutual
def uptoBulk {H : Type} : DataW H → Nat
  | .lit (.string bytes) => bytes.length + 1
  | .lit _ => 1
  | .nil => 1
  | .ptr d => uptoBulk d + 1
  | .slice elems spare => uptoBulkAll elems + uptoBulkAll spare + 1
  | .agg parts => uptoBulkAll parts + 1
  | .iface _ d => uptoBulk d + 1
  | .map entries => uptoBulkEntries entries + 1
  | .held _ => 1
def uptoBulkAll {H : Type} : List (DataW H) → Nat
  | [] => 0
  | d :: r => uptoBulk d + uptoBulkAll r
def uptoBulkEntries {H : Type} : List (Lit × DataW H) → Nat
  | [] => 0
  | x :: r => uptoBulkEntry x + uptoBulkEntries r
def uptoBulkEntry {H : Type} : Lit × DataW H → Nat
  | (.string bytes, d) => bytes.length + uptoBulk d + 1
  | (_, d) => uptoBulk d + 1
 end
def uptoSmall : (H : Type) → List (DataW H) → Bool := fun _ ds => decide (uptoBulkAll ds ≤ 1048576)
def OpenSpec.upto (s : _root_.Go.ChangeSpec) : _root_.Go.OpenSpec := { _root_.Go.OpenSpec.ofChange s with cond := some uptoSmall }

/-- 'laws.FnExactConstants', WHERE WHAT IT READS IS OF BULK AT MOST 1048576: true; the input reads as it did. -/
def fnExactConstantsUptoRow : OpenClaim := { program := "ytndmfjgdibklkaa", sum := "3e98402a1f5c0c429bb6c5c0b2c4ba867f3d9a61f32855879da82f6f1f0dfe10", func := "loop.example/g00182/laws.FnExactConstants", spec := "fnExactConstants", apart := false, narrowed := true }
def FnExactConstantsUptoSaid : Prop := fnExactConstantsUptoRow.holds Try.pinned (OpenSpec.upto fnExactConstantsSpec)

/-- 'laws.FnExactNumOk', WHERE WHAT IT READS IS OF BULK AT MOST 1048576: true; the input reads as it did. -/
def fnExactNumOkUptoRow : OpenClaim := { program := "ytndmfjgdibklkaa", sum := "3e98402a1f5c0c429bb6c5c0b2c4ba867f3d9a61f32855879da82f6f1f0dfe10", func := "loop.example/g00182/laws.FnExactNumOk", spec := "fnExactNumOk", apart := false, narrowed := true }
def FnExactNumOkUptoSaid : Prop := fnExactNumOkUptoRow.holds Try.pinned (OpenSpec.upto fnExactNumOkSpec)

/-- 'laws.FnExactNeutral', WHERE WHAT IT READS IS OF BULK AT MOST 1048576: true; the input reads as it did. -/
def fnExactNeutralUptoRow : OpenClaim := { program := "ytndmfjgdibklkaa", sum := "3e98402a1f5c0c429bb6c5c0b2c4ba867f3d9a61f32855879da82f6f1f0dfe10", func := "loop.example/g00182/laws.FnExactNeutral", spec := "fnExactNeutral", apart := false, narrowed := true }
def FnExactNeutralUptoSaid : Prop := fnExactNeutralUptoRow.holds Try.pinned (OpenSpec.upto fnExactNeutralSpec)

/-- 'laws.FnExactSizeOf', WHERE WHAT IT READS IS OF BULK AT MOST 1048576: true; the input reads as it did. -/
def fnExactSizeOfUptoRow : OpenClaim := { program := "ytndmfjgdibklkaa", sum := "3e98402a1f5c0c429bb6c5c0b2c4ba867f3d9a61f32855879da82f6f1f0dfe10", func := "loop.example/g00182/laws.FnExactSizeOf", spec := "fnExactSizeOf", apart := false, narrowed := true }
def FnExactSizeOfUptoSaid : Prop := fnExactSizeOfUptoRow.holds Try.pinned (OpenSpec.upto fnExactSizeOfSpec)

/-- 'laws.FnExactShapeOk', WHERE WHAT IT READS IS OF BULK AT MOST 1048576: true; the input reads as it did. -/
def fnExactShapeOkUptoRow : OpenClaim := { program := "ytndmfjgdibklkaa", sum := "3e98402a1f5c0c429bb6c5c0b2c4ba867f3d9a61f32855879da82f6f1f0dfe10", func := "loop.example/g00182/laws.FnExactShapeOk", spec := "fnExactShapeOk", apart := false, narrowed := true }
def FnExactShapeOkUptoSaid : Prop := fnExactShapeOkUptoRow.holds Try.pinned (OpenSpec.upto fnExactShapeOkSpec)

end Rows
end Go.Proofs.Ytndmfjgdibklkaa
