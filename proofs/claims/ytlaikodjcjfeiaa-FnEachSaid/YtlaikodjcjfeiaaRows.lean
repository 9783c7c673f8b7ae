/-
  No cell of these rows narrows 'for every input' (looked for: loops, veiled, ifaces, maps, wideKeys, modest, calm, conditions, laid).
  DERIVED. THE GIVEN ROWS OF THIS SEAT. 12 by the template 'for every input the law returns true; each argument reads behind the call as it read before'; 0 by the template 'total and deterministic' (their statements: YtlaikodjcjfeiaaTotals.lean).
  GIVEN WITH THE SEED: the statements are not yours to turn. If you find one false, say at which input.
  Laid BY PROGRAM, IN A SANDBOX (cutbox-rows.mjs): the forced cells as the released guide's own fill.sh prints them over the translation 522db887b32c6dcc… (all of the seat's roots in one cut). By AI agents, Wed Nov 11 2026. No macro, syntax, notation, axiom, sorry.
-/
import Derived.Test.YtlaikodjcjfeiaaChecked
import GoSem.Claim
import GoSem.ClaimJoined
import GoSem.ClaimMapViews
import Derived.JoinedTies
import Derived.KernelRfl
namespace Go.Proofs.Ytlaikodjcjfeiaa
/- THE CELL 'sum', in the pinned program and in every row, IS THE sha256 OF THE DUMP (.gsa) THAT YtlaikodjcjfeiaaProg.lean LOADS. Nothing in Lean hashes anything: it is a label: what it is worth is what the hold of that sum in a sandbox is worth. -/
noncomputable def Try.pinned : Pinned := { name := "ytlaikodjcjfeiaa", sum := "522db887b32c6dccbc85bb2ddca33eb58d434293dbe767c8a941e79a3df902ab", checked := Try.checked }
namespace Rows
def none {H : Type} : Left H := { results := [], args := [] }

/-- 'laws.FnEach': WHATEVER THE INPUT: true; the input reads as it did. -/
def fnEachSpec : ChangeSpec := { name := "fnEach", fn := fun _ => fun
  | [d] => { results := [.lit (.bool true)], args := [d] }
  | _ => none }
def fnEachRow : OpenClaim := { program := "ytlaikodjcjfeiaa", sum := "522db887b32c6dccbc85bb2ddca33eb58d434293dbe767c8a941e79a3df902ab", func := "loop.example/g00182/laws.FnEach", spec := "fnEach", unfollowed := true, recurses := true, apart := false }
def FnEachSaid : Prop := fnEachRow.holds Try.pinned (OpenSpec.ofChange fnEachSpec)

/-- ITS FALSE NEIGHBOUR: 'it returns false'. Refute it at one input. -/
def fnEachWrong : ChangeSpec := { name := "fnEach", fn := fun _ => fun
  | [d] => { results := [.lit (.bool false)], args := [d] }
  | _ => none }
def FnEachWrongFalsely : Prop := fnEachRow.holds Try.pinned (OpenSpec.ofChange fnEachWrong)

/-- 'laws.FnExactNumAt': WHATEVER THE INPUT: true; the input reads as it did. -/
def fnExactNumAtSpec : ChangeSpec := { name := "fnExactNumAt", fn := fun _ => fun
  | [d1, d2] => { results := [.lit (.bool true)], args := [d1, d2] }
  | _ => none }
def fnExactNumAtRow : OpenClaim := { program := "ytlaikodjcjfeiaa", sum := "522db887b32c6dccbc85bb2ddca33eb58d434293dbe767c8a941e79a3df902ab", func := "loop.example/g00182/laws.FnExactNumAt", spec := "fnExactNumAt", unfollowed := true, recurses := true, apart := false }
def FnExactNumAtSaid : Prop := fnExactNumAtRow.holds Try.pinned (OpenSpec.ofChange fnExactNumAtSpec)

/-- ITS FALSE NEIGHBOUR: 'it returns false'. Refute it at one input. -/
def fnExactNumAtWrong : ChangeSpec := { name := "fnExactNumAt", fn := fun _ => fun
  | [d1, d2] => { results := [.lit (.bool false)], args := [d1, d2] }
  | _ => none }
def FnExactNumAtWrongFalsely : Prop := fnExactNumAtRow.holds Try.pinned (OpenSpec.ofChange fnExactNumAtWrong)

/-- 'laws.FnExactRavel': WHATEVER THE INPUT: true; the input reads as it did. -/
def fnExactRavelSpec : ChangeSpec := { name := "fnExactRavel", fn := fun _ => fun
  | [d] => { results := [.lit (.bool true)], args := [d] }
  | _ => none }
def fnExactRavelRow : OpenClaim := { program := "ytlaikodjcjfeiaa", sum := "522db887b32c6dccbc85bb2ddca33eb58d434293dbe767c8a941e79a3df902ab", func := "loop.example/g00182/laws.FnExactRavel", spec := "fnExactRavel", unfollowed := true, recurses := true, apart := false }
def FnExactRavelSaid : Prop := fnExactRavelRow.holds Try.pinned (OpenSpec.ofChange fnExactRavelSpec)

/-- ITS FALSE NEIGHBOUR: 'it returns false'. Refute it at one input. -/
def fnExactRavelWrong : ChangeSpec := { name := "fnExactRavel", fn := fun _ => fun
  | [d] => { results := [.lit (.bool false)], args := [d] }
  | _ => none }
def FnExactRavelWrongFalsely : Prop := fnExactRavelRow.holds Try.pinned (OpenSpec.ofChange fnExactRavelWrong)

/-- 'laws.FnExactShapeOf': WHATEVER THE INPUT: true; the input reads as it did. -/
def fnExactShapeOfSpec : ChangeSpec := { name := "fnExactShapeOf", fn := fun _ => fun
  | [d] => { results := [.lit (.bool true)], args := [d] }
  | _ => none }
def fnExactShapeOfRow : OpenClaim := { program := "ytlaikodjcjfeiaa", sum := "522db887b32c6dccbc85bb2ddca33eb58d434293dbe767c8a941e79a3df902ab", func := "loop.example/g00182/laws.FnExactShapeOf", spec := "fnExactShapeOf", unfollowed := true, recurses := true, apart := false }
def FnExactShapeOfSaid : Prop := fnExactShapeOfRow.holds Try.pinned (OpenSpec.ofChange fnExactShapeOfSpec)

/-- ITS FALSE NEIGHBOUR: 'it returns false'. Refute it at one input. -/
def fnExactShapeOfWrong : ChangeSpec := { name := "fnExactShapeOf", fn := fun _ => fun
  | [d] => { results := [.lit (.bool false)], args := [d] }
  | _ => none }
def FnExactShapeOfWrongFalsely : Prop := fnExactShapeOfRow.holds Try.pinned (OpenSpec.ofChange fnExactShapeOfWrong)

/-- 'laws.FnExactIota': WHATEVER THE INPUT: true; the input reads as it did. -/
def fnExactIotaSpec : ChangeSpec := { name := "fnExactIota", fn := fun _ => fun
  | [d] => { results := [.lit (.bool true)], args := [d] }
  | _ => none }
def fnExactIotaRow : OpenClaim := { program := "ytlaikodjcjfeiaa", sum := "522db887b32c6dccbc85bb2ddca33eb58d434293dbe767c8a941e79a3df902ab", func := "loop.example/g00182/laws.FnExactIota", spec := "fnExactIota", unfollowed := true, recurses := true, apart := false }
def FnExactIotaSaid : Prop := fnExactIotaRow.holds Try.pinned (OpenSpec.ofChange fnExactIotaSpec)

/-- ITS FALSE NEIGHBOUR: 'it returns false'. Refute it at one input. -/
def fnExactIotaWrong : ChangeSpec := { name := "fnExactIota", fn := fun _ => fun
  | [d] => { results := [.lit (.bool false)], args := [d] }
  | _ => none }
def FnExactIotaWrongFalsely : Prop := fnExactIotaRow.holds Try.pinned (OpenSpec.ofChange fnExactIotaWrong)

/-- 'laws.FnExactFit': WHATEVER THE INPUT: true; the input reads as it did. -/
def fnExactFitSpec : ChangeSpec := { name := "fnExactFit", fn := fun _ => fun
  | [d1, d2] => { results := [.lit (.bool true)], args := [d1, d2] }
  | _ => none }
def fnExactFitRow : OpenClaim := { program := "ytlaikodjcjfeiaa", sum := "522db887b32c6dccbc85bb2ddca33eb58d434293dbe767c8a941e79a3df902ab", func := "loop.example/g00182/laws.FnExactFit", spec := "fnExactFit", unfollowed := true, recurses := true, apart := false }
def FnExactFitSaid : Prop := fnExactFitRow.holds Try.pinned (OpenSpec.ofChange fnExactFitSpec)

/-- ITS FALSE NEIGHBOUR: 'it returns false'. Refute it at one input. -/
def fnExactFitWrong : ChangeSpec := { name := "fnExactFit", fn := fun _ => fun
  | [d1, d2] => { results := [.lit (.bool false)], args := [d1, d2] }
  | _ => none }
def FnExactFitWrongFalsely : Prop := fnExactFitRow.holds Try.pinned (OpenSpec.ofChange fnExactFitWrong)

/-- 'laws.FnPlaces': WHATEVER THE INPUT: true; the input reads as it did. -/
def fnPlacesSpec : ChangeSpec := { name := "fnPlaces", fn := fun _ => fun
  | [d] => { results := [.lit (.bool true)], args := [d] }
  | _ => none }
def fnPlacesRow : OpenClaim := { program := "ytlaikodjcjfeiaa", sum := "522db887b32c6dccbc85bb2ddca33eb58d434293dbe767c8a941e79a3df902ab", func := "loop.example/g00182/laws.FnPlaces", spec := "fnPlaces", apart := false }
def FnPlacesSaid : Prop := fnPlacesRow.holds Try.pinned (OpenSpec.ofChange fnPlacesSpec)

/-- ITS FALSE NEIGHBOUR: 'it returns false'. Refute it at one input. -/
def fnPlacesWrong : ChangeSpec := { name := "fnPlaces", fn := fun _ => fun
  | [d] => { results := [.lit (.bool false)], args := [d] }
  | _ => none }
def FnPlacesWrongFalsely : Prop := fnPlacesRow.holds Try.pinned (OpenSpec.ofChange fnPlacesWrong)

/-- 'laws.FnVectors': WHATEVER THE INPUT: true; the input reads as it did. -/
def fnVectorsSpec : ChangeSpec := { name := "fnVectors", fn := fun _ => fun
  | [d] => { results := [.lit (.bool true)], args := [d] }
  | _ => none }
def fnVectorsRow : OpenClaim := { program := "ytlaikodjcjfeiaa", sum := "522db887b32c6dccbc85bb2ddca33eb58d434293dbe767c8a941e79a3df902ab", func := "loop.example/g00182/laws.FnVectors", spec := "fnVectors", unfollowed := true, recurses := true, apart := false }
def FnVectorsSaid : Prop := fnVectorsRow.holds Try.pinned (OpenSpec.ofChange fnVectorsSpec)

/-- ITS FALSE NEIGHBOUR: 'it returns false'. Refute it at one input. -/
def fnVectorsWrong : ChangeSpec := { name := "fnVectors", fn := fun _ => fun
  | [d] => { results := [.lit (.bool false)], args := [d] }
  | _ => none }
def FnVectorsWrongFalsely : Prop := fnVectorsRow.holds Try.pinned (OpenSpec.ofChange fnVectorsWrong)

/-- 'laws.FnExactRows': WHATEVER THE INPUT: true; the input reads as it did. -/
def fnExactRowsSpec : ChangeSpec := { name := "fnExactRows", fn := fun _ => fun
  | [d] => { results := [.lit (.bool true)], args := [d] }
  | _ => none }
def fnExactRowsRow : OpenClaim := { program := "ytlaikodjcjfeiaa", sum := "522db887b32c6dccbc85bb2ddca33eb58d434293dbe767c8a941e79a3df902ab", func := "loop.example/g00182/laws.FnExactRows", spec := "fnExactRows", unfollowed := true, recurses := true, apart := false }
def FnExactRowsSaid : Prop := fnExactRowsRow.holds Try.pinned (OpenSpec.ofChange fnExactRowsSpec)

/-- ITS FALSE NEIGHBOUR: 'it returns false'. Refute it at one input. -/
def fnExactRowsWrong : ChangeSpec := { name := "fnExactRows", fn := fun _ => fun
  | [d] => { results := [.lit (.bool false)], args := [d] }
  | _ => none }
def FnExactRowsWrongFalsely : Prop := fnExactRowsRow.holds Try.pinned (OpenSpec.ofChange fnExactRowsWrong)

/-- 'laws.FnExactReshape': WHATEVER THE INPUT: true; the input reads as it did. -/
def fnExactReshapeSpec : ChangeSpec := { name := "fnExactReshape", fn := fun _ => fun
  | [d1, d2] => { results := [.lit (.bool true)], args := [d1, d2] }
  | _ => none }
def fnExactReshapeRow : OpenClaim := { program := "ytlaikodjcjfeiaa", sum := "522db887b32c6dccbc85bb2ddca33eb58d434293dbe767c8a941e79a3df902ab", func := "loop.example/g00182/laws.FnExactReshape", spec := "fnExactReshape", unfollowed := true, recurses := true, apart := false }
def FnExactReshapeSaid : Prop := fnExactReshapeRow.holds Try.pinned (OpenSpec.ofChange fnExactReshapeSpec)

/-- ITS FALSE NEIGHBOUR: 'it returns false'. Refute it at one input. -/
def fnExactReshapeWrong : ChangeSpec := { name := "fnExactReshape", fn := fun _ => fun
  | [d1, d2] => { results := [.lit (.bool false)], args := [d1, d2] }
  | _ => none }
def FnExactReshapeWrongFalsely : Prop := fnExactReshapeRow.holds Try.pinned (OpenSpec.ofChange fnExactReshapeWrong)

/-- 'laws.FnExactFind': WHATEVER THE INPUT: true; the input reads as it did. -/
def fnExactFindSpec : ChangeSpec := { name := "fnExactFind", fn := fun _ => fun
  | [d1, d2] => { results := [.lit (.bool true)], args := [d1, d2] }
  | _ => none }
def fnExactFindRow : OpenClaim := { program := "ytlaikodjcjfeiaa", sum := "522db887b32c6dccbc85bb2ddca33eb58d434293dbe767c8a941e79a3df902ab", func := "loop.example/g00182/laws.FnExactFind", spec := "fnExactFind", unfollowed := true, recurses := true, apart := false }
def FnExactFindSaid : Prop := fnExactFindRow.holds Try.pinned (OpenSpec.ofChange fnExactFindSpec)

/-- ITS FALSE NEIGHBOUR: 'it returns false'. Refute it at one input. -/
def fnExactFindWrong : ChangeSpec := { name := "fnExactFind", fn := fun _ => fun
  | [d1, d2] => { results := [.lit (.bool false)], args := [d1, d2] }
  | _ => none }
def FnExactFindWrongFalsely : Prop := fnExactFindRow.holds Try.pinned (OpenSpec.ofChange fnExactFindWrong)

/-- 'laws.FnDivide': WHATEVER THE INPUT: true; the input reads as it did. -/
def fnDivideSpec : ChangeSpec := { name := "fnDivide", fn := fun _ => fun
  | [d] => { results := [.lit (.bool true)], args := [d] }
  | _ => none }
def fnDivideRow : OpenClaim := { program := "ytlaikodjcjfeiaa", sum := "522db887b32c6dccbc85bb2ddca33eb58d434293dbe767c8a941e79a3df902ab", func := "loop.example/g00182/laws.FnDivide", spec := "fnDivide", apart := false }
def FnDivideSaid : Prop := fnDivideRow.holds Try.pinned (OpenSpec.ofChange fnDivideSpec)

/-- ITS FALSE NEIGHBOUR: 'it returns false'. Refute it at one input. -/
def fnDivideWrong : ChangeSpec := { name := "fnDivide", fn := fun _ => fun
  | [d] => { results := [.lit (.bool false)], args := [d] }
  | _ => none }
def FnDivideWrongFalsely : Prop := fnDivideRow.holds Try.pinned (OpenSpec.ofChange fnDivideWrong)

/- THE SECOND FORM. 'bulk': how many values and letters a reading holds, each counted each time it is reached (what is shared counts as often as it is met; a slice's spare places count too). A statement '..UptoSaid' is the law's where the arguments, and the package variables that the reading takes, are together of bulk at most 1048576: NARROWER than '..Said'. Prove '..Said' where nothing that the law and all that it calls make is longer than what came in: it says more and counts as full. Else prove '..UptoSaid'. A law counts once. -/
mutual
def uptoBulk {H : Type} : DataW H → Nat
  | .lit (.string bytes) => bytes.length + 1
  | .lit _ => 1
  | .nil => 1
  | .ptr d => uptoBulk d + 1
  | .slice elems spare => uptoBulkAll elems + uptoBulkAll spare + 1
  | .agg parts => uptoBulkAll parts + 1
  | .iface _ d => uptoBulk d + 1
  | .map entries => uptoBulkEntries entries + 1
  | .held _ => 1
def uptoBulkAll {H : Type} : List (DataW H) → Nat
  | [] => 0
  | d :: r => uptoBulk d + uptoBulkAll r
def uptoBulkEntries {H : Type} : List (Lit × DataW H) → Nat
  | [] => 0
  | x :: r => uptoBulkEntry x + uptoBulkEntries r
def uptoBulkEntry {H : Type} : Lit × DataW H → Nat
  | (.string bytes, d) => bytes.length + uptoBulk d + 1
  | (_, d) => uptoBulk d + 1
 end
def uptoSmall : (H : Type) → List (DataW H) → Bool := fun _ ds => decide (uptoBulkAll ds ≤ 1048576)
def OpenSpec.upto (s : _root_.Go.ChangeSpec) : _root_.Go.OpenSpec := { _root_.Go.OpenSpec.ofChange s with cond := some uptoSmall }

/-- 'laws.FnEach', WHERE WHAT IT READS IS OF BULK AT MOST 1048576: true; the input reads as it did. -/
def fnEachUptoRow : OpenClaim := { program := "ytlaikodjcjfeiaa", sum := "522db887b32c6dccbc85bb2ddca33eb58d434293dbe767c8a941e79a3df902ab", func := "loop.example/g00182/laws.FnEach", spec := "fnEach", unfollowed := true, recurses := true, apart := false, narrowed := true }
def FnEachUptoSaid : Prop := fnEachUptoRow.holds Try.pinned (OpenSpec.upto fnEachSpec)

/-- 'laws.FnExactNumAt', WHERE WHAT IT READS IS OF BULK AT MOST 1048576: true; the input reads as it did. -/
def fnExactNumAtUptoRow : OpenClaim := { program := "ytlaikodjcjfeiaa", sum := "522db887b32c6dccbc85bb2ddca33eb58d434293dbe767c8a941e79a3df902ab", func := "loop.example/g00182/laws.FnExactNumAt", spec := "fnExactNumAt", unfollowed := true, recurses := true, apart := false, narrowed := true }
def FnExactNumAtUptoSaid : Prop := fnExactNumAtUptoRow.holds Try.pinned (OpenSpec.upto fnExactNumAtSpec)

/-- 'laws.FnExactRavel', WHERE WHAT IT READS IS OF BULK AT MOST 1048576: true; the input reads as it did. -/
def fnExactRavelUptoRow : OpenClaim := { program := "ytlaikodjcjfeiaa", sum := "522db887b32c6dccbc85bb2ddca33eb58d434293dbe767c8a941e79a3df902ab", func := "loop.example/g00182/laws.FnExactRavel", spec := "fnExactRavel", unfollowed := true, recurses := true, apart := false, narrowed := true }
def FnExactRavelUptoSaid : Prop := fnExactRavelUptoRow.holds Try.pinned (OpenSpec.upto fnExactRavelSpec)

/-- 'laws.FnExactShapeOf', WHERE WHAT IT READS IS OF BULK AT MOST 1048576: true; the input reads as it did. -/
def fnExactShapeOfUptoRow : OpenClaim := { program := "ytlaikodjcjfeiaa", sum := "522db887b32c6dccbc85bb2ddca33eb58d434293dbe767c8a941e79a3df902ab", func := "loop.example/g00182/laws.FnExactShapeOf", spec := "fnExactShapeOf", unfollowed := true, recurses := true, apart := false, narrowed := true }
def FnExactShapeOfUptoSaid : Prop := fnExactShapeOfUptoRow.holds Try.pinned (OpenSpec.upto fnExactShapeOfSpec)

/-- 'laws.FnExactIota', WHERE WHAT IT READS IS OF BULK AT MOST 1048576: true; the input reads as it did. -/
def fnExactIotaUptoRow : OpenClaim := { program := "ytlaikodjcjfeiaa", sum := "522db887b32c6dccbc85bb2ddca33eb58d434293dbe767c8a941e79a3df902ab", func := "loop.example/g00182/laws.FnExactIota", spec := "fnExactIota", unfollowed := true, recurses := true, apart := false, narrowed := true }
def FnExactIotaUptoSaid : Prop := fnExactIotaUptoRow.holds Try.pinned (OpenSpec.upto fnExactIotaSpec)

/-- 'laws.FnExactFit', WHERE WHAT IT READS IS OF BULK AT MOST 1048576: true; the input reads as it did. -/
def fnExactFitUptoRow : OpenClaim := { program := "ytlaikodjcjfeiaa", sum := "522db887b32c6dccbc85bb2ddca33eb58d434293dbe767c8a941e79a3df902ab", func := "loop.example/g00182/laws.FnExactFit", spec := "fnExactFit", unfollowed := true, recurses := true, apart := false, narrowed := true }
def FnExactFitUptoSaid : Prop := fnExactFitUptoRow.holds Try.pinned (OpenSpec.upto fnExactFitSpec)

/-- 'laws.FnPlaces', WHERE WHAT IT READS IS OF BULK AT MOST 1048576: true; the input reads as it did. -/
def fnPlacesUptoRow : OpenClaim := { program := "ytlaikodjcjfeiaa", sum := "522db887b32c6dccbc85bb2ddca33eb58d434293dbe767c8a941e79a3df902ab", func := "loop.example/g00182/laws.FnPlaces", spec := "fnPlaces", apart := false, narrowed := true }
def FnPlacesUptoSaid : Prop := fnPlacesUptoRow.holds Try.pinned (OpenSpec.upto fnPlacesSpec)

/-- 'laws.FnVectors', WHERE WHAT IT READS IS OF BULK AT MOST 1048576: true; the input reads as it did. -/
def fnVectorsUptoRow : OpenClaim := { program := "ytlaikodjcjfeiaa", sum := "522db887b32c6dccbc85bb2ddca33eb58d434293dbe767c8a941e79a3df902ab", func := "loop.example/g00182/laws.FnVectors", spec := "fnVectors", unfollowed := true, recurses := true, apart := false, narrowed := true }
def FnVectorsUptoSaid : Prop := fnVectorsUptoRow.holds Try.pinned (OpenSpec.upto fnVectorsSpec)

/-- 'laws.FnExactRows', WHERE WHAT IT READS IS OF BULK AT MOST 1048576: true; the input reads as it did. -/
def fnExactRowsUptoRow : OpenClaim := { program := "ytlaikodjcjfeiaa", sum := "522db887b32c6dccbc85bb2ddca33eb58d434293dbe767c8a941e79a3df902ab", func := "loop.example/g00182/laws.FnExactRows", spec := "fnExactRows", unfollowed := true, recurses := true, apart := false, narrowed := true }
def FnExactRowsUptoSaid : Prop := fnExactRowsUptoRow.holds Try.pinned (OpenSpec.upto fnExactRowsSpec)

/-- 'laws.FnExactReshape', WHERE WHAT IT READS IS OF BULK AT MOST 1048576: true; the input reads as it did. -/
def fnExactReshapeUptoRow : OpenClaim := { program := "ytlaikodjcjfeiaa", sum := "522db887b32c6dccbc85bb2ddca33eb58d434293dbe767c8a941e79a3df902ab", func := "loop.example/g00182/laws.FnExactReshape", spec := "fnExactReshape", unfollowed := true, recurses := true, apart := false, narrowed := true }
def FnExactReshapeUptoSaid : Prop := fnExactReshapeUptoRow.holds Try.pinned (OpenSpec.upto fnExactReshapeSpec)

/-- 'laws.FnExactFind', WHERE WHAT IT READS IS OF BULK AT MOST 1048576: true; the input reads as it did. -/
def fnExactFindUptoRow : OpenClaim := { program := "ytlaikodjcjfeiaa", sum := "522db887b32c6dccbc85bb2ddca33eb58d434293dbe767c8a941e79a3df902ab", func := "loop.example/g00182/laws.FnExactFind", spec := "fnExactFind", unfollowed := true, recurses := true, apart := false, narrowed := true }
def FnExactFindUptoSaid : Prop := fnExactFindUptoRow.holds Try.pinned (OpenSpec.upto fnExactFindSpec)

/-- 'laws.FnDivide', WHERE WHAT IT READS IS OF BULK AT MOST 1048576: true; the input reads as it did. -/
def fnDivideUptoRow : OpenClaim := { program := "ytlaikodjcjfeiaa", sum := "522db887b32c6dccbc85bb2ddca33eb58d434293dbe767c8a941e79a3df902ab", func := "loop.example/g00182/laws.FnDivide", spec := "fnDivide", apart := false, narrowed := true }
def FnDivideUptoSaid : Prop := fnDivideUptoRow.holds Try.pinned (OpenSpec.upto fnDivideSpec)

end Rows
end Go.Proofs.Ytlaikodjcjfeiaa
