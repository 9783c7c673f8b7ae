/-
  No cell of these rows narrows 'for every input' (looked for: loops, veiled, ifaces, maps, wideKeys, modest, calm, conditions, laid).
  DERIVED. THE GIVEN ROWS OF THIS SEAT. 12 by the template 'for every input the law returns true; each argument reads behind the call as it read before'; 0 by the template 'total and deterministic' (their statements: YtfcjbdkipcpjcaaTotals.lean).
  GIVEN WITH THE SEED: the statements are not yours to turn. If you find one false, say at which input.
  Laid BY PROGRAM, IN A SANDBOX (cutbox-rows.mjs): the forced cells as the released guide's own fill.sh prints them over the translation 06e150438bf6b641… (all of the seat's roots in one cut). By AI agents, Wed Nov 11 2026. No macro, syntax, notation, axiom, sorry.
-/
import Derived.Test.YtfcjbdkipcpjcaaChecked
import GoSem.Claim
import GoSem.ClaimJoined
import GoSem.ClaimMapViews
import Derived.JoinedTies
import Derived.KernelRfl
namespace Go.Proofs.Ytfcjbdkipcpjcaa
/- THE CELL 'sum', in the pinned program and in every row, IS THE sha256 OF THE DUMP (.gsa) THAT YtfcjbdkipcpjcaaProg.lean LOADS. Nothing in Lean hashes anything: it is a label: what it is worth is what the hold of that sum in a sandbox is worth. -/
noncomputable def Try.pinned : Pinned := { name := "ytfcjbdkipcpjcaa", sum := "06e150438bf6b64158869a9d0306bbdbd69f69a3db22b0b1d197dd303762b971", checked := Try.checked }
namespace Rows
def none {H : Type} : Left H := { results := [], args := [] }

/-- 'laws.FnTaken': WHATEVER THE INPUT: true; the input reads as it did. -/
def fnTakenSpec : ChangeSpec := { name := "fnTaken", fn := fun _ => fun
  | [d] => { results := [.lit (.bool true)], args := [d] }
  | _ => none }
def fnTakenRow : OpenClaim := { program := "ytfcjbdkipcpjcaa", sum := "06e150438bf6b64158869a9d0306bbdbd69f69a3db22b0b1d197dd303762b971", func := "loop.example/g00182/laws.FnTaken", spec := "fnTaken", unfollowed := true, recurses := true, apart := false }
def FnTakenSaid : Prop := fnTakenRow.holds Try.pinned (OpenSpec.ofChange fnTakenSpec)

/-- ITS FALSE NEIGHBOUR: 'it returns false'. Refute it at one input. -/
def fnTakenWrong : ChangeSpec := { name := "fnTaken", fn := fun _ => fun
  | [d] => { results := [.lit (.bool false)], args := [d] }
  | _ => none }
def FnTakenWrongFalsely : Prop := fnTakenRow.holds Try.pinned (OpenSpec.ofChange fnTakenWrong)

/-- 'laws.FnExactScalarOf': WHATEVER THE INPUT: true; the input reads as it did. -/
def fnExactScalarOfSpec : ChangeSpec := { name := "fnExactScalarOf", fn := fun _ => fun
  | [d] => { results := [.lit (.bool true)], args := [d] }
  | _ => none }
def fnExactScalarOfRow : OpenClaim := { program := "ytfcjbdkipcpjcaa", sum := "06e150438bf6b64158869a9d0306bbdbd69f69a3db22b0b1d197dd303762b971", func := "loop.example/g00182/laws.FnExactScalarOf", spec := "fnExactScalarOf", apart := false }
def FnExactScalarOfSaid : Prop := fnExactScalarOfRow.holds Try.pinned (OpenSpec.ofChange fnExactScalarOfSpec)

/-- ITS FALSE NEIGHBOUR: 'it returns false'. Refute it at one input. -/
def fnExactScalarOfWrong : ChangeSpec := { name := "fnExactScalarOf", fn := fun _ => fun
  | [d] => { results := [.lit (.bool false)], args := [d] }
  | _ => none }
def FnExactScalarOfWrongFalsely : Prop := fnExactScalarOfRow.holds Try.pinned (OpenSpec.ofChange fnExactScalarOfWrong)

/-- 'laws.FnExactOne': WHATEVER THE INPUT: true; the input reads as it did. -/
def fnExactOneSpec : ChangeSpec := { name := "fnExactOne", fn := fun _ => fun
  | [d1, d2] => { results := [.lit (.bool true)], args := [d1, d2] }
  | _ => none }
def fnExactOneRow : OpenClaim := { program := "ytfcjbdkipcpjcaa", sum := "06e150438bf6b64158869a9d0306bbdbd69f69a3db22b0b1d197dd303762b971", func := "loop.example/g00182/laws.FnExactOne", spec := "fnExactOne", apart := false }
def FnExactOneSaid : Prop := fnExactOneRow.holds Try.pinned (OpenSpec.ofChange fnExactOneSpec)

/-- ITS FALSE NEIGHBOUR: 'it returns false'. Refute it at one input. -/
def fnExactOneWrong : ChangeSpec := { name := "fnExactOne", fn := fun _ => fun
  | [d1, d2] => { results := [.lit (.bool false)], args := [d1, d2] }
  | _ => none }
def FnExactOneWrongFalsely : Prop := fnExactOneRow.holds Try.pinned (OpenSpec.ofChange fnExactOneWrong)

/-- 'laws.FnExactShapeSame': WHATEVER THE INPUT: true; the input reads as it did. -/
def fnExactShapeSameSpec : ChangeSpec := { name := "fnExactShapeSame", fn := fun _ => fun
  | [d1, d2] => { results := [.lit (.bool true)], args := [d1, d2] }
  | _ => none }
def fnExactShapeSameRow : OpenClaim := { program := "ytfcjbdkipcpjcaa", sum := "06e150438bf6b64158869a9d0306bbdbd69f69a3db22b0b1d197dd303762b971", func := "loop.example/g00182/laws.FnExactShapeSame", spec := "fnExactShapeSame", apart := false }
def FnExactShapeSameSaid : Prop := fnExactShapeSameRow.holds Try.pinned (OpenSpec.ofChange fnExactShapeSameSpec)

/-- ITS FALSE NEIGHBOUR: 'it returns false'. Refute it at one input. -/
def fnExactShapeSameWrong : ChangeSpec := { name := "fnExactShapeSame", fn := fun _ => fun
  | [d1, d2] => { results := [.lit (.bool false)], args := [d1, d2] }
  | _ => none }
def FnExactShapeSameWrongFalsely : Prop := fnExactShapeSameRow.holds Try.pinned (OpenSpec.ofChange fnExactShapeSameWrong)

/-- 'laws.FnExactPlaceOf': WHATEVER THE INPUT: true; the input reads as it did. -/
def fnExactPlaceOfSpec : ChangeSpec := { name := "fnExactPlaceOf", fn := fun _ => fun
  | [d1, d2] => { results := [.lit (.bool true)], args := [d1, d2] }
  | _ => none }
def fnExactPlaceOfRow : OpenClaim := { program := "ytfcjbdkipcpjcaa", sum := "06e150438bf6b64158869a9d0306bbdbd69f69a3db22b0b1d197dd303762b971", func := "loop.example/g00182/laws.FnExactPlaceOf", spec := "fnExactPlaceOf", apart := false }
def FnExactPlaceOfSaid : Prop := fnExactPlaceOfRow.holds Try.pinned (OpenSpec.ofChange fnExactPlaceOfSpec)

/-- ITS FALSE NEIGHBOUR: 'it returns false'. Refute it at one input. -/
def fnExactPlaceOfWrong : ChangeSpec := { name := "fnExactPlaceOf", fn := fun _ => fun
  | [d1, d2] => { results := [.lit (.bool false)], args := [d1, d2] }
  | _ => none }
def FnExactPlaceOfWrongFalsely : Prop := fnExactPlaceOfRow.holds Try.pinned (OpenSpec.ofChange fnExactPlaceOfWrong)

/-- 'laws.FnExactIndexOf': WHATEVER THE INPUT: true; the input reads as it did. -/
def fnExactIndexOfSpec : ChangeSpec := { name := "fnExactIndexOf", fn := fun _ => fun
  | [d1, d2] => { results := [.lit (.bool true)], args := [d1, d2] }
  | _ => none }
def fnExactIndexOfRow : OpenClaim := { program := "ytfcjbdkipcpjcaa", sum := "06e150438bf6b64158869a9d0306bbdbd69f69a3db22b0b1d197dd303762b971", func := "loop.example/g00182/laws.FnExactIndexOf", spec := "fnExactIndexOf", apart := false }
def FnExactIndexOfSaid : Prop := fnExactIndexOfRow.holds Try.pinned (OpenSpec.ofChange fnExactIndexOfSpec)

/-- ITS FALSE NEIGHBOUR: 'it returns false'. Refute it at one input. -/
def fnExactIndexOfWrong : ChangeSpec := { name := "fnExactIndexOf", fn := fun _ => fun
  | [d1, d2] => { results := [.lit (.bool false)], args := [d1, d2] }
  | _ => none }
def FnExactIndexOfWrongFalsely : Prop := fnExactIndexOfRow.holds Try.pinned (OpenSpec.ofChange fnExactIndexOfWrong)

/-- 'laws.FnExactEachTwo': WHATEVER THE INPUT: true; the input reads as it did. -/
def fnExactEachTwoSpec : ChangeSpec := { name := "fnExactEachTwo", fn := fun _ => fun
  | [d1, d2, d3] => { results := [.lit (.bool true)], args := [d1, d2, d3] }
  | _ => none }
def fnExactEachTwoRow : OpenClaim := { program := "ytfcjbdkipcpjcaa", sum := "06e150438bf6b64158869a9d0306bbdbd69f69a3db22b0b1d197dd303762b971", func := "loop.example/g00182/laws.FnExactEachTwo", spec := "fnExactEachTwo", unfollowed := true, recurses := true, apart := false }
def FnExactEachTwoSaid : Prop := fnExactEachTwoRow.holds Try.pinned (OpenSpec.ofChange fnExactEachTwoSpec)

/-- ITS FALSE NEIGHBOUR: 'it returns false'. Refute it at one input. -/
def fnExactEachTwoWrong : ChangeSpec := { name := "fnExactEachTwo", fn := fun _ => fun
  | [d1, d2, d3] => { results := [.lit (.bool false)], args := [d1, d2, d3] }
  | _ => none }
def FnExactEachTwoWrongFalsely : Prop := fnExactEachTwoRow.holds Try.pinned (OpenSpec.ofChange fnExactEachTwoWrong)

/-- 'laws.FnExactArrayOk': WHATEVER THE INPUT: true; the input reads as it did. -/
def fnExactArrayOkSpec : ChangeSpec := { name := "fnExactArrayOk", fn := fun _ => fun
  | [d] => { results := [.lit (.bool true)], args := [d] }
  | _ => none }
def fnExactArrayOkRow : OpenClaim := { program := "ytfcjbdkipcpjcaa", sum := "06e150438bf6b64158869a9d0306bbdbd69f69a3db22b0b1d197dd303762b971", func := "loop.example/g00182/laws.FnExactArrayOk", spec := "fnExactArrayOk", unfollowed := true, recurses := true, apart := false }
def FnExactArrayOkSaid : Prop := fnExactArrayOkRow.holds Try.pinned (OpenSpec.ofChange fnExactArrayOkSpec)

/-- ITS FALSE NEIGHBOUR: 'it returns false'. Refute it at one input. -/
def fnExactArrayOkWrong : ChangeSpec := { name := "fnExactArrayOk", fn := fun _ => fun
  | [d] => { results := [.lit (.bool false)], args := [d] }
  | _ => none }
def FnExactArrayOkWrongFalsely : Prop := fnExactArrayOkRow.holds Try.pinned (OpenSpec.ofChange fnExactArrayOkWrong)

/-- 'laws.FnOrder': WHATEVER THE INPUT: true; the input reads as it did. -/
def fnOrderSpec : ChangeSpec := { name := "fnOrder", fn := fun _ => fun
  | [d] => { results := [.lit (.bool true)], args := [d] }
  | _ => none }
def fnOrderRow : OpenClaim := { program := "ytfcjbdkipcpjcaa", sum := "06e150438bf6b64158869a9d0306bbdbd69f69a3db22b0b1d197dd303762b971", func := "loop.example/g00182/laws.FnOrder", spec := "fnOrder", apart := false }
def FnOrderSaid : Prop := fnOrderRow.holds Try.pinned (OpenSpec.ofChange fnOrderSpec)

/-- ITS FALSE NEIGHBOUR: 'it returns false'. Refute it at one input. -/
def fnOrderWrong : ChangeSpec := { name := "fnOrder", fn := fun _ => fun
  | [d] => { results := [.lit (.bool false)], args := [d] }
  | _ => none }
def FnOrderWrongFalsely : Prop := fnOrderRow.holds Try.pinned (OpenSpec.ofChange fnOrderWrong)

/-- 'laws.FnExactArraySame': WHATEVER THE INPUT: true; the input reads as it did. -/
def fnExactArraySameSpec : ChangeSpec := { name := "fnExactArraySame", fn := fun _ => fun
  | [d1, d2] => { results := [.lit (.bool true)], args := [d1, d2] }
  | _ => none }
def fnExactArraySameRow : OpenClaim := { program := "ytfcjbdkipcpjcaa", sum := "06e150438bf6b64158869a9d0306bbdbd69f69a3db22b0b1d197dd303762b971", func := "loop.example/g00182/laws.FnExactArraySame", spec := "fnExactArraySame", unfollowed := true, recurses := true, apart := false }
def FnExactArraySameSaid : Prop := fnExactArraySameRow.holds Try.pinned (OpenSpec.ofChange fnExactArraySameSpec)

/-- ITS FALSE NEIGHBOUR: 'it returns false'. Refute it at one input. -/
def fnExactArraySameWrong : ChangeSpec := { name := "fnExactArraySame", fn := fun _ => fun
  | [d1, d2] => { results := [.lit (.bool false)], args := [d1, d2] }
  | _ => none }
def FnExactArraySameWrongFalsely : Prop := fnExactArraySameRow.holds Try.pinned (OpenSpec.ofChange fnExactArraySameWrong)

/-- 'laws.FnExactVectorOf': WHATEVER THE INPUT: true; the input reads as it did. -/
def fnExactVectorOfSpec : ChangeSpec := { name := "fnExactVectorOf", fn := fun _ => fun
  | [d] => { results := [.lit (.bool true)], args := [d] }
  | _ => none }
def fnExactVectorOfRow : OpenClaim := { program := "ytfcjbdkipcpjcaa", sum := "06e150438bf6b64158869a9d0306bbdbd69f69a3db22b0b1d197dd303762b971", func := "loop.example/g00182/laws.FnExactVectorOf", spec := "fnExactVectorOf", unfollowed := true, recurses := true, apart := false }
def FnExactVectorOfSaid : Prop := fnExactVectorOfRow.holds Try.pinned (OpenSpec.ofChange fnExactVectorOfSpec)

/-- ITS FALSE NEIGHBOUR: 'it returns false'. Refute it at one input. -/
def fnExactVectorOfWrong : ChangeSpec := { name := "fnExactVectorOf", fn := fun _ => fun
  | [d] => { results := [.lit (.bool false)], args := [d] }
  | _ => none }
def FnExactVectorOfWrongFalsely : Prop := fnExactVectorOfRow.holds Try.pinned (OpenSpec.ofChange fnExactVectorOfWrong)

/-- 'laws.FnExactTwo': WHATEVER THE INPUT: true; the input reads as it did. -/
def fnExactTwoSpec : ChangeSpec := { name := "fnExactTwo", fn := fun _ => fun
  | [d1, d2, d3] => { results := [.lit (.bool true)], args := [d1, d2, d3] }
  | _ => none }
def fnExactTwoRow : OpenClaim := { program := "ytfcjbdkipcpjcaa", sum := "06e150438bf6b64158869a9d0306bbdbd69f69a3db22b0b1d197dd303762b971", func := "loop.example/g00182/laws.FnExactTwo", spec := "fnExactTwo", apart := false }
def FnExactTwoSaid : Prop := fnExactTwoRow.holds Try.pinned (OpenSpec.ofChange fnExactTwoSpec)

/-- ITS FALSE NEIGHBOUR: 'it returns false'. Refute it at one input. -/
def fnExactTwoWrong : ChangeSpec := { name := "fnExactTwo", fn := fun _ => fun
  | [d1, d2, d3] => { results := [.lit (.bool false)], args := [d1, d2, d3] }
  | _ => none }
def FnExactTwoWrongFalsely : Prop := fnExactTwoRow.holds Try.pinned (OpenSpec.ofChange fnExactTwoWrong)

/- THE SECOND FORM. 'bulk': how many values and letters a reading holds, each counted each time it is reached (what is shared counts as often as it is met; a slice's spare places count too). A statement '..UptoSaid' is the law's where the arguments, and the package variables that the reading takes, are together of bulk at most 1048576: NARROWER than '..Said'. Prove '..Said' where nothing that the law and all that it calls make is longer than what came in: it says more and counts as full. Else prove '..UptoSaid'. A law counts once. -/
mutual
def uptoBulk {H : Type} : DataW H → Nat
  | .lit (.string bytes) => bytes.length + 1
  | .lit _ => 1
  | .nil => 1
  | .ptr d => uptoBulk d + 1
  | .slice elems spare => uptoBulkAll elems + uptoBulkAll spare + 1
  | .agg parts => uptoBulkAll parts + 1
  | .iface _ d => uptoBulk d + 1
  | .map entries => uptoBulkEntries entries + 1
  | .held _ => 1
def uptoBulkAll {H : Type} : List (DataW H) → Nat
  | [] => 0
  | d :: r => uptoBulk d + uptoBulkAll r
def uptoBulkEntries {H : Type} : List (Lit × DataW H) → Nat
  | [] => 0
  | x :: r => uptoBulkEntry x + uptoBulkEntries r
def uptoBulkEntry {H : Type} : Lit × DataW H → Nat
  | (.string bytes, d) => bytes.length + uptoBulk d + 1
  | (_, d) => uptoBulk d + 1
 end
def uptoSmall : (H : Type) → List (DataW H) → Bool := fun _ ds => decide (uptoBulkAll ds ≤ 1048576)
def OpenSpec.upto (s : _root_.Go.ChangeSpec) : _root_.Go.OpenSpec := { _root_.Go.OpenSpec.ofChange s with cond := some uptoSmall }

/-- 'laws.FnTaken', WHERE WHAT IT READS IS OF BULK AT MOST 1048576: true; the input reads as it did. -/
def fnTakenUptoRow : OpenClaim := { program := "ytfcjbdkipcpjcaa", sum := "06e150438bf6b64158869a9d0306bbdbd69f69a3db22b0b1d197dd303762b971", func := "loop.example/g00182/laws.FnTaken", spec := "fnTaken", unfollowed := true, recurses := true, apart := false, narrowed := true }
def FnTakenUptoSaid : Prop := fnTakenUptoRow.holds Try.pinned (OpenSpec.upto fnTakenSpec)

/-- 'laws.FnExactScalarOf', WHERE WHAT IT READS IS OF BULK AT MOST 1048576: true; the input reads as it did. -/
def fnExactScalarOfUptoRow : OpenClaim := { program := "ytfcjbdkipcpjcaa", sum := "06e150438bf6b64158869a9d0306bbdbd69f69a3db22b0b1d197dd303762b971", func := "loop.example/g00182/laws.FnExactScalarOf", spec := "fnExactScalarOf", apart := false, narrowed := true }
def FnExactScalarOfUptoSaid : Prop := fnExactScalarOfUptoRow.holds Try.pinned (OpenSpec.upto fnExactScalarOfSpec)

/-- 'laws.FnExactOne', WHERE WHAT IT READS IS OF BULK AT MOST 1048576: true; the input reads as it did. -/
def fnExactOneUptoRow : OpenClaim := { program := "ytfcjbdkipcpjcaa", sum := "06e150438bf6b64158869a9d0306bbdbd69f69a3db22b0b1d197dd303762b971", func := "loop.example/g00182/laws.FnExactOne", spec := "fnExactOne", apart := false, narrowed := true }
def FnExactOneUptoSaid : Prop := fnExactOneUptoRow.holds Try.pinned (OpenSpec.upto fnExactOneSpec)

/-- 'laws.FnExactShapeSame', WHERE WHAT IT READS IS OF BULK AT MOST 1048576: true; the input reads as it did. -/
def fnExactShapeSameUptoRow : OpenClaim := { program := "ytfcjbdkipcpjcaa", sum := "06e150438bf6b64158869a9d0306bbdbd69f69a3db22b0b1d197dd303762b971", func := "loop.example/g00182/laws.FnExactShapeSame", spec := "fnExactShapeSame", apart := false, narrowed := true }
def FnExactShapeSameUptoSaid : Prop := fnExactShapeSameUptoRow.holds Try.pinned (OpenSpec.upto fnExactShapeSameSpec)

/-- 'laws.FnExactPlaceOf', WHERE WHAT IT READS IS OF BULK AT MOST 1048576: true; the input reads as it did. -/
def fnExactPlaceOfUptoRow : OpenClaim := { program := "ytfcjbdkipcpjcaa", sum := "06e150438bf6b64158869a9d0306bbdbd69f69a3db22b0b1d197dd303762b971", func := "loop.example/g00182/laws.FnExactPlaceOf", spec := "fnExactPlaceOf", apart := false, narrowed := true }
def FnExactPlaceOfUptoSaid : Prop := fnExactPlaceOfUptoRow.holds Try.pinned (OpenSpec.upto fnExactPlaceOfSpec)

/-- 'laws.FnExactIndexOf', WHERE WHAT IT READS IS OF BULK AT MOST 1048576: true; the input reads as it did. -/
def fnExactIndexOfUptoRow : OpenClaim := { program := "ytfcjbdkipcpjcaa", sum := "06e150438bf6b64158869a9d0306bbdbd69f69a3db22b0b1d197dd303762b971", func := "loop.example/g00182/laws.FnExactIndexOf", spec := "fnExactIndexOf", apart := false, narrowed := true }
def FnExactIndexOfUptoSaid : Prop := fnExactIndexOfUptoRow.holds Try.pinned (OpenSpec.upto fnExactIndexOfSpec)

/-- 'laws.FnExactEachTwo', WHERE WHAT IT READS IS OF BULK AT MOST 1048576: true; the input reads as it did. -/
def fnExactEachTwoUptoRow : OpenClaim := { program := "ytfcjbdkipcpjcaa", sum := "06e150438bf6b64158869a9d0306bbdbd69f69a3db22b0b1d197dd303762b971", func := "loop.example/g00182/laws.FnExactEachTwo", spec := "fnExactEachTwo", unfollowed := true, recurses := true, apart := false, narrowed := true }
def FnExactEachTwoUptoSaid : Prop := fnExactEachTwoUptoRow.holds Try.pinned (OpenSpec.upto fnExactEachTwoSpec)

/-- 'laws.FnExactArrayOk', WHERE WHAT IT READS IS OF BULK AT MOST 1048576: true; the input reads as it did. -/
def fnExactArrayOkUptoRow : OpenClaim := { program := "ytfcjbdkipcpjcaa", sum := "06e150438bf6b64158869a9d0306bbdbd69f69a3db22b0b1d197dd303762b971", func := "loop.example/g00182/laws.FnExactArrayOk", spec := "fnExactArrayOk", unfollowed := true, recurses := true, apart := false, narrowed := true }
def FnExactArrayOkUptoSaid : Prop := fnExactArrayOkUptoRow.holds Try.pinned (OpenSpec.upto fnExactArrayOkSpec)

/-- 'laws.FnOrder', WHERE WHAT IT READS IS OF BULK AT MOST 1048576: true; the input reads as it did. -/
def fnOrderUptoRow : OpenClaim := { program := "ytfcjbdkipcpjcaa", sum := "06e150438bf6b64158869a9d0306bbdbd69f69a3db22b0b1d197dd303762b971", func := "loop.example/g00182/laws.FnOrder", spec := "fnOrder", apart := false, narrowed := true }
def FnOrderUptoSaid : Prop := fnOrderUptoRow.holds Try.pinned (OpenSpec.upto fnOrderSpec)

/-- 'laws.FnExactArraySame', WHERE WHAT IT READS IS OF BULK AT MOST 1048576: true; the input reads as it did. -/
def fnExactArraySameUptoRow : OpenClaim := { program := "ytfcjbdkipcpjcaa", sum := "06e150438bf6b64158869a9d0306bbdbd69f69a3db22b0b1d197dd303762b971", func := "loop.example/g00182/laws.FnExactArraySame", spec := "fnExactArraySame", unfollowed := true, recurses := true, apart := false, narrowed := true }
def FnExactArraySameUptoSaid : Prop := fnExactArraySameUptoRow.holds Try.pinned (OpenSpec.upto fnExactArraySameSpec)

/-- 'laws.FnExactVectorOf', WHERE WHAT IT READS IS OF BULK AT MOST 1048576: true; the input reads as it did. -/
def fnExactVectorOfUptoRow : OpenClaim := { program := "ytfcjbdkipcpjcaa", sum := "06e150438bf6b64158869a9d0306bbdbd69f69a3db22b0b1d197dd303762b971", func := "loop.example/g00182/laws.FnExactVectorOf", spec := "fnExactVectorOf", unfollowed := true, recurses := true, apart := false, narrowed := true }
def FnExactVectorOfUptoSaid : Prop := fnExactVectorOfUptoRow.holds Try.pinned (OpenSpec.upto fnExactVectorOfSpec)

/-- 'laws.FnExactTwo', WHERE WHAT IT READS IS OF BULK AT MOST 1048576: true; the input reads as it did. -/
def fnExactTwoUptoRow : OpenClaim := { program := "ytfcjbdkipcpjcaa", sum := "06e150438bf6b64158869a9d0306bbdbd69f69a3db22b0b1d197dd303762b971", func := "loop.example/g00182/laws.FnExactTwo", spec := "fnExactTwo", apart := false, narrowed := true }
def FnExactTwoUptoSaid : Prop := fnExactTwoUptoRow.holds Try.pinned (OpenSpec.upto fnExactTwoSpec)

end Rows
end Go.Proofs.Ytfcjbdkipcpjcaa
