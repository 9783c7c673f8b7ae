/-
  No cell of these rows narrows 'for every input' (looked for: loops, veiled, ifaces, maps, wideKeys, modest, calm, conditions, laid).
  DERIVED. THE GIVEN ROWS OF THIS SEAT. 7 by the template 'for every input the law returns true; each argument reads behind the call as it read before'; 0 by the template 'total and deterministic' (their statements: YtlpgopiajkajjaaTotals.lean).
  GIVEN WITH THE SEED: the statements are not yours to turn. If you find one false, say at which input.
  Laid BY PROGRAM, IN A SANDBOX (cutbox-rows.mjs): the forced cells as the released guide's own fill.sh prints them over the translation 26fd9fa43b3fc816… (all of the seat's roots in one cut). By AI agents, Wed Nov 11 2026. No macro, syntax, notation, axiom, sorry.
-/
import Derived.Test.YtlpgopiajkajjaaChecked
import GoSem.Claim
import GoSem.ClaimJoined
import GoSem.ClaimMapViews
import Derived.JoinedTies
import Derived.KernelRfl
namespace Go.Proofs.Ytlpgopiajkajjaa
/- THE CELL 'sum', in the pinned program and in every row, IS THE sha256 OF THE DUMP (.gsa) THAT YtlpgopiajkajjaaProg.lean LOADS. Nothing in Lean hashes anything: it is a label: what it is worth is what the hold of that sum in a sandbox is worth. -/
noncomputable def Try.pinned : Pinned := { name := "ytlpgopiajkajjaa", sum := "26fd9fa43b3fc8165bfcab513a9a31aeefeaa48185bcf824d520e0f35be247f3", checked := Try.checked }
namespace Rows
def none {H : Type} : Left H := { results := [], args := [] }

/-- 'laws.FnNums': WHATEVER THE INPUT: true; the input reads as it did. -/
def fnNumsSpec : ChangeSpec := { name := "fnNums", fn := fun _ => fun
  | [d] => { results := [.lit (.bool true)], args := [d] }
  | _ => none }
def fnNumsRow : OpenClaim := { program := "ytlpgopiajkajjaa", sum := "26fd9fa43b3fc8165bfcab513a9a31aeefeaa48185bcf824d520e0f35be247f3", func := "loop.example/g00182/laws.FnNums", spec := "fnNums", apart := false }
def FnNumsSaid : Prop := fnNumsRow.holds Try.pinned (OpenSpec.ofChange fnNumsSpec)

/-- ITS FALSE NEIGHBOUR: 'it returns false'. Refute it at one input. -/
def fnNumsWrong : ChangeSpec := { name := "fnNums", fn := fun _ => fun
  | [d] => { results := [.lit (.bool false)], args := [d] }
  | _ => none }
def FnNumsWrongFalsely : Prop := fnNumsRow.holds Try.pinned (OpenSpec.ofChange fnNumsWrong)

/-- 'laws.FnExactTake': WHATEVER THE INPUT: true; the input reads as it did. -/
def fnExactTakeSpec : ChangeSpec := { name := "fnExactTake", fn := fun _ => fun
  | [d1, d2] => { results := [.lit (.bool true)], args := [d1, d2] }
  | _ => none }
def fnExactTakeRow : OpenClaim := { program := "ytlpgopiajkajjaa", sum := "26fd9fa43b3fc8165bfcab513a9a31aeefeaa48185bcf824d520e0f35be247f3", func := "loop.example/g00182/laws.FnExactTake", spec := "fnExactTake", unfollowed := true, recurses := true, apart := false }
def FnExactTakeSaid : Prop := fnExactTakeRow.holds Try.pinned (OpenSpec.ofChange fnExactTakeSpec)

/-- ITS FALSE NEIGHBOUR: 'it returns false'. Refute it at one input. -/
def fnExactTakeWrong : ChangeSpec := { name := "fnExactTake", fn := fun _ => fun
  | [d1, d2] => { results := [.lit (.bool false)], args := [d1, d2] }
  | _ => none }
def FnExactTakeWrongFalsely : Prop := fnExactTakeRow.holds Try.pinned (OpenSpec.ofChange fnExactTakeWrong)

/-- 'laws.FnRotated': WHATEVER THE INPUT: true; the input reads as it did. -/
def fnRotatedSpec : ChangeSpec := { name := "fnRotated", fn := fun _ => fun
  | [d] => { results := [.lit (.bool true)], args := [d] }
  | _ => none }
def fnRotatedRow : OpenClaim := { program := "ytlpgopiajkajjaa", sum := "26fd9fa43b3fc8165bfcab513a9a31aeefeaa48185bcf824d520e0f35be247f3", func := "loop.example/g00182/laws.FnRotated", spec := "fnRotated", unfollowed := true, recurses := true, apart := false }
def FnRotatedSaid : Prop := fnRotatedRow.holds Try.pinned (OpenSpec.ofChange fnRotatedSpec)

/-- ITS FALSE NEIGHBOUR: 'it returns false'. Refute it at one input. -/
def fnRotatedWrong : ChangeSpec := { name := "fnRotated", fn := fun _ => fun
  | [d] => { results := [.lit (.bool false)], args := [d] }
  | _ => none }
def FnRotatedWrongFalsely : Prop := fnRotatedRow.holds Try.pinned (OpenSpec.ofChange fnRotatedWrong)

/-- 'laws.FnNothing': WHATEVER THE INPUT: true; the input reads as it did. -/
def fnNothingSpec : ChangeSpec := { name := "fnNothing", fn := fun _ => fun
  | [d] => { results := [.lit (.bool true)], args := [d] }
  | _ => none }
def fnNothingRow : OpenClaim := { program := "ytlpgopiajkajjaa", sum := "26fd9fa43b3fc8165bfcab513a9a31aeefeaa48185bcf824d520e0f35be247f3", func := "loop.example/g00182/laws.FnNothing", spec := "fnNothing", unfollowed := true, recurses := true, apart := false }
def FnNothingSaid : Prop := fnNothingRow.holds Try.pinned (OpenSpec.ofChange fnNothingSpec)

/-- ITS FALSE NEIGHBOUR: 'it returns false'. Refute it at one input. -/
def fnNothingWrong : ChangeSpec := { name := "fnNothing", fn := fun _ => fun
  | [d] => { results := [.lit (.bool false)], args := [d] }
  | _ => none }
def FnNothingWrongFalsely : Prop := fnNothingRow.holds Try.pinned (OpenSpec.ofChange fnNothingWrong)

/-- 'laws.FnEachOne': WHATEVER THE INPUT: true; the input reads as it did. -/
def fnEachOneSpec : ChangeSpec := { name := "fnEachOne", fn := fun _ => fun
  | [d] => { results := [.lit (.bool true)], args := [d] }
  | _ => none }
def fnEachOneRow : OpenClaim := { program := "ytlpgopiajkajjaa", sum := "26fd9fa43b3fc8165bfcab513a9a31aeefeaa48185bcf824d520e0f35be247f3", func := "loop.example/g00182/laws.FnEachOne", spec := "fnEachOne", unfollowed := true, recurses := true, apart := false }
def FnEachOneSaid : Prop := fnEachOneRow.holds Try.pinned (OpenSpec.ofChange fnEachOneSpec)

/-- ITS FALSE NEIGHBOUR: 'it returns false'. Refute it at one input. -/
def fnEachOneWrong : ChangeSpec := { name := "fnEachOne", fn := fun _ => fun
  | [d] => { results := [.lit (.bool false)], args := [d] }
  | _ => none }
def FnEachOneWrongFalsely : Prop := fnEachOneRow.holds Try.pinned (OpenSpec.ofChange fnEachOneWrong)

/-- 'laws.FnTurned': WHATEVER THE INPUT: true; the input reads as it did. -/
def fnTurnedSpec : ChangeSpec := { name := "fnTurned", fn := fun _ => fun
  | [d] => { results := [.lit (.bool true)], args := [d] }
  | _ => none }
def fnTurnedRow : OpenClaim := { program := "ytlpgopiajkajjaa", sum := "26fd9fa43b3fc8165bfcab513a9a31aeefeaa48185bcf824d520e0f35be247f3", func := "loop.example/g00182/laws.FnTurned", spec := "fnTurned", unfollowed := true, recurses := true, apart := false }
def FnTurnedSaid : Prop := fnTurnedRow.holds Try.pinned (OpenSpec.ofChange fnTurnedSpec)

/-- ITS FALSE NEIGHBOUR: 'it returns false'. Refute it at one input. -/
def fnTurnedWrong : ChangeSpec := { name := "fnTurned", fn := fun _ => fun
  | [d] => { results := [.lit (.bool false)], args := [d] }
  | _ => none }
def FnTurnedWrongFalsely : Prop := fnTurnedRow.holds Try.pinned (OpenSpec.ofChange fnTurnedWrong)

/-- 'laws.FnJoined': WHATEVER THE INPUT: true; the input reads as it did. -/
def fnJoinedSpec : ChangeSpec := { name := "fnJoined", fn := fun _ => fun
  | [d] => { results := [.lit (.bool true)], args := [d] }
  | _ => none }
def fnJoinedRow : OpenClaim := { program := "ytlpgopiajkajjaa", sum := "26fd9fa43b3fc8165bfcab513a9a31aeefeaa48185bcf824d520e0f35be247f3", func := "loop.example/g00182/laws.FnJoined", spec := "fnJoined", unfollowed := true, recurses := true, apart := false }
def FnJoinedSaid : Prop := fnJoinedRow.holds Try.pinned (OpenSpec.ofChange fnJoinedSpec)

/-- ITS FALSE NEIGHBOUR: 'it returns false'. Refute it at one input. -/
def fnJoinedWrong : ChangeSpec := { name := "fnJoined", fn := fun _ => fun
  | [d] => { results := [.lit (.bool false)], args := [d] }
  | _ => none }
def FnJoinedWrongFalsely : Prop := fnJoinedRow.holds Try.pinned (OpenSpec.ofChange fnJoinedWrong)

/- THE SECOND FORM. 'bulk': how many values and letters a reading holds, each counted each time it is reached (what is shared counts as often as it is met; a slice's spare places count too). A statement '..UptoSaid' is the law's where the arguments, and the package variables that the reading takes, are together of bulk at most 1048576: NARROWER than '..Said'. Prove '..Said' where nothing that the law and all that it calls make is longer than what came in: it says more and counts as full. Else prove '..UptoSaid'. A law counts once. -/
mutual
def uptoBulk {H : Type} : DataW H → Nat
  | .lit (.string bytes) => bytes.length + 1
  | .lit _ => 1
  | .nil => 1
  | .ptr d => uptoBulk d + 1
  | .slice elems spare => uptoBulkAll elems + uptoBulkAll spare + 1
  | .agg parts => uptoBulkAll parts + 1
  | .iface _ d => uptoBulk d + 1
  | .map entries => uptoBulkEntries entries + 1
  | .held _ => 1
def uptoBulkAll {H : Type} : List (DataW H) → Nat
  | [] => 0
  | d :: r => uptoBulk d + uptoBulkAll r
def uptoBulkEntries {H : Type} : List (Lit × DataW H) → Nat
  | [] => 0
  | x :: r => uptoBulkEntry x + uptoBulkEntries r
def uptoBulkEntry {H : Type} : Lit × DataW H → Nat
  | (.string bytes, d) => bytes.length + uptoBulk d + 1
  | (_, d) => uptoBulk d + 1
 end
def uptoSmall : (H : Type) → List (DataW H) → Bool := fun _ ds => decide (uptoBulkAll ds ≤ 1048576)
def OpenSpec.upto (s : _root_.Go.ChangeSpec) : _root_.Go.OpenSpec := { _root_.Go.OpenSpec.ofChange s with cond := some uptoSmall }

/-- 'laws.FnNums', WHERE WHAT IT READS IS OF BULK AT MOST 1048576: true; the input reads as it did. -/
def fnNumsUptoRow : OpenClaim := { program := "ytlpgopiajkajjaa", sum := "26fd9fa43b3fc8165bfcab513a9a31aeefeaa48185bcf824d520e0f35be247f3", func := "loop.example/g00182/laws.FnNums", spec := "fnNums", apart := false, narrowed := true }
def FnNumsUptoSaid : Prop := fnNumsUptoRow.holds Try.pinned (OpenSpec.upto fnNumsSpec)

/-- 'laws.FnExactTake', WHERE WHAT IT READS IS OF BULK AT MOST 1048576: true; the input reads as it did. -/
def fnExactTakeUptoRow : OpenClaim := { program := "ytlpgopiajkajjaa", sum := "26fd9fa43b3fc8165bfcab513a9a31aeefeaa48185bcf824d520e0f35be247f3", func := "loop.example/g00182/laws.FnExactTake", spec := "fnExactTake", unfollowed := true, recurses := true, apart := false, narrowed := true }
def FnExactTakeUptoSaid : Prop := fnExactTakeUptoRow.holds Try.pinned (OpenSpec.upto fnExactTakeSpec)

/-- 'laws.FnRotated', WHERE WHAT IT READS IS OF BULK AT MOST 1048576: true; the input reads as it did. -/
def fnRotatedUptoRow : OpenClaim := { program := "ytlpgopiajkajjaa", sum := "26fd9fa43b3fc8165bfcab513a9a31aeefeaa48185bcf824d520e0f35be247f3", func := "loop.example/g00182/laws.FnRotated", spec := "fnRotated", unfollowed := true, recurses := true, apart := false, narrowed := true }
def FnRotatedUptoSaid : Prop := fnRotatedUptoRow.holds Try.pinned (OpenSpec.upto fnRotatedSpec)

/-- 'laws.FnNothing', WHERE WHAT IT READS IS OF BULK AT MOST 1048576: true; the input reads as it did. -/
def fnNothingUptoRow : OpenClaim := { program := "ytlpgopiajkajjaa", sum := "26fd9fa43b3fc8165bfcab513a9a31aeefeaa48185bcf824d520e0f35be247f3", func := "loop.example/g00182/laws.FnNothing", spec := "fnNothing", unfollowed := true, recurses := true, apart := false, narrowed := true }
def FnNothingUptoSaid : Prop := fnNothingUptoRow.holds Try.pinned (OpenSpec.upto fnNothingSpec)

/-- 'laws.FnEachOne', WHERE WHAT IT READS IS OF BULK AT MOST 1048576: true; the input reads as it did. -/
def fnEachOneUptoRow : OpenClaim := { program := "ytlpgopiajkajjaa", sum := "26fd9fa43b3fc8165bfcab513a9a31aeefeaa48185bcf824d520e0f35be247f3", func := "loop.example/g00182/laws.FnEachOne", spec := "fnEachOne", unfollowed := true, recurses := true, apart := false, narrowed := true }
def FnEachOneUptoSaid : Prop := fnEachOneUptoRow.holds Try.pinned (OpenSpec.upto fnEachOneSpec)

/-- 'laws.FnTurned', WHERE WHAT IT READS IS OF BULK AT MOST 1048576: true; the input reads as it did. -/
def fnTurnedUptoRow : OpenClaim := { program := "ytlpgopiajkajjaa", sum := "26fd9fa43b3fc8165bfcab513a9a31aeefeaa48185bcf824d520e0f35be247f3", func := "loop.example/g00182/laws.FnTurned", spec := "fnTurned", unfollowed := true, recurses := true, apart := false, narrowed := true }
def FnTurnedUptoSaid : Prop := fnTurnedUptoRow.holds Try.pinned (OpenSpec.upto fnTurnedSpec)

/-- 'laws.FnJoined', WHERE WHAT IT READS IS OF BULK AT MOST 1048576: true; the input reads as it did. -/
def fnJoinedUptoRow : OpenClaim := { program := "ytlpgopiajkajjaa", sum := "26fd9fa43b3fc8165bfcab513a9a31aeefeaa48185bcf824d520e0f35be247f3", func := "loop.example/g00182/laws.FnJoined", spec := "fnJoined", unfollowed := true, recurses := true, apart := false, narrowed := true }
def FnJoinedUptoSaid : Prop := fnJoinedUptoRow.holds Try.pinned (OpenSpec.upto fnJoinedSpec)

end Rows
end Go.Proofs.Ytlpgopiajkajjaa
