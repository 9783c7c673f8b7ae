/-
  No cell of these rows narrows 'for every input' (looked for: loops, veiled, ifaces, maps, wideKeys, modest, calm, conditions, laid).
  DERIVED. THE GIVEN ROWS OF THIS SEAT. 12 by the template 'for every input the law returns true; each argument reads behind the call as it read before'; 0 by the template 'total and deterministic' (their statements: YtcnbajdnlkcjjaaTotals.lean).
  GIVEN WITH THE SEED: the statements are not yours to turn. If you find one false, say at which input.
  Laid BY PROGRAM, IN A SANDBOX (cutbox-rows.mjs): the forced cells as the released guide's own fill.sh prints them over the translation af18c22002d93ea3… (all of the seat's roots in one cut). By AI agents, Wed Nov 11 2026. No macro, syntax, notation, axiom, sorry.
-/
import Derived.Test.YtcnbajdnlkcjjaaChecked
import GoSem.Claim
import GoSem.ClaimJoined
import GoSem.ClaimMapViews
import Derived.JoinedTies
import Derived.KernelRfl
namespace Go.Proofs.Ytcnbajdnlkcjjaa
/- THE CELL 'sum', in the pinned program and in every row, IS THE sha256 OF THE DUMP (.gsa) THAT YtcnbajdnlkcjjaaProg.lean LOADS. Nothing in Lean hashes anything: it is a label: what it is worth is what the hold of that sum in a sandbox is worth. -/
noncomputable def Try.pinned : Pinned := { name := "ytcnbajdnlkcjjaa", sum := "af18c22002d93ea3b9bb7cc80fbadcccd552deed85f6396f35b410fbb0c44c26", checked := Try.checked }
namespace Rows
def none {H : Type} : Left H := { results := [], args := [] }

/-- 'laws.FnExactWithin': WHATEVER THE INPUT: true; the input reads as it did. -/
def fnExactWithinSpec : ChangeSpec := { name := "fnExactWithin", fn := fun _ => fun
  | [d1, d2] => { results := [.lit (.bool true)], args := [d1, d2] }
  | _ => none }
def fnExactWithinRow : OpenClaim := { program := "ytcnbajdnlkcjjaa", sum := "af18c22002d93ea3b9bb7cc80fbadcccd552deed85f6396f35b410fbb0c44c26", func := "loop.example/g00182/laws.FnExactWithin", spec := "fnExactWithin", unfollowed := true, recurses := true, apart := false }
def FnExactWithinSaid : Prop := fnExactWithinRow.holds Try.pinned (OpenSpec.ofChange fnExactWithinSpec)

/-- ITS FALSE NEIGHBOUR: 'it returns false'. Refute it at one input. -/
def fnExactWithinWrong : ChangeSpec := { name := "fnExactWithin", fn := fun _ => fun
  | [d1, d2] => { results := [.lit (.bool false)], args := [d1, d2] }
  | _ => none }
def FnExactWithinWrongFalsely : Prop := fnExactWithinRow.holds Try.pinned (OpenSpec.ofChange fnExactWithinWrong)

/-- 'laws.FnRavel': WHATEVER THE INPUT: true; the input reads as it did. -/
def fnRavelSpec : ChangeSpec := { name := "fnRavel", fn := fun _ => fun
  | [d] => { results := [.lit (.bool true)], args := [d] }
  | _ => none }
def fnRavelRow : OpenClaim := { program := "ytcnbajdnlkcjjaa", sum := "af18c22002d93ea3b9bb7cc80fbadcccd552deed85f6396f35b410fbb0c44c26", func := "loop.example/g00182/laws.FnRavel", spec := "fnRavel", unfollowed := true, recurses := true, apart := false }
def FnRavelSaid : Prop := fnRavelRow.holds Try.pinned (OpenSpec.ofChange fnRavelSpec)

/-- ITS FALSE NEIGHBOUR: 'it returns false'. Refute it at one input. -/
def fnRavelWrong : ChangeSpec := { name := "fnRavel", fn := fun _ => fun
  | [d] => { results := [.lit (.bool false)], args := [d] }
  | _ => none }
def FnRavelWrongFalsely : Prop := fnRavelRow.holds Try.pinned (OpenSpec.ofChange fnRavelWrong)

/-- 'laws.FnExactTurn': WHATEVER THE INPUT: true; the input reads as it did. -/
def fnExactTurnSpec : ChangeSpec := { name := "fnExactTurn", fn := fun _ => fun
  | [d] => { results := [.lit (.bool true)], args := [d] }
  | _ => none }
def fnExactTurnRow : OpenClaim := { program := "ytcnbajdnlkcjjaa", sum := "af18c22002d93ea3b9bb7cc80fbadcccd552deed85f6396f35b410fbb0c44c26", func := "loop.example/g00182/laws.FnExactTurn", spec := "fnExactTurn", unfollowed := true, recurses := true, apart := false }
def FnExactTurnSaid : Prop := fnExactTurnRow.holds Try.pinned (OpenSpec.ofChange fnExactTurnSpec)

/-- ITS FALSE NEIGHBOUR: 'it returns false'. Refute it at one input. -/
def fnExactTurnWrong : ChangeSpec := { name := "fnExactTurn", fn := fun _ => fun
  | [d] => { results := [.lit (.bool false)], args := [d] }
  | _ => none }
def FnExactTurnWrongFalsely : Prop := fnExactTurnRow.holds Try.pinned (OpenSpec.ofChange fnExactTurnWrong)

/-- 'laws.FnRows': WHATEVER THE INPUT: true; the input reads as it did. -/
def fnRowsSpec : ChangeSpec := { name := "fnRows", fn := fun _ => fun
  | [d] => { results := [.lit (.bool true)], args := [d] }
  | _ => none }
def fnRowsRow : OpenClaim := { program := "ytcnbajdnlkcjjaa", sum := "af18c22002d93ea3b9bb7cc80fbadcccd552deed85f6396f35b410fbb0c44c26", func := "loop.example/g00182/laws.FnRows", spec := "fnRows", unfollowed := true, recurses := true, apart := false }
def FnRowsSaid : Prop := fnRowsRow.holds Try.pinned (OpenSpec.ofChange fnRowsSpec)

/-- ITS FALSE NEIGHBOUR: 'it returns false'. Refute it at one input. -/
def fnRowsWrong : ChangeSpec := { name := "fnRows", fn := fun _ => fun
  | [d] => { results := [.lit (.bool false)], args := [d] }
  | _ => none }
def FnRowsWrongFalsely : Prop := fnRowsRow.holds Try.pinned (OpenSpec.ofChange fnRowsWrong)

/-- 'laws.FnExactRotate': WHATEVER THE INPUT: true; the input reads as it did. -/
def fnExactRotateSpec : ChangeSpec := { name := "fnExactRotate", fn := fun _ => fun
  | [d1, d2] => { results := [.lit (.bool true)], args := [d1, d2] }
  | _ => none }
def fnExactRotateRow : OpenClaim := { program := "ytcnbajdnlkcjjaa", sum := "af18c22002d93ea3b9bb7cc80fbadcccd552deed85f6396f35b410fbb0c44c26", func := "loop.example/g00182/laws.FnExactRotate", spec := "fnExactRotate", unfollowed := true, recurses := true, apart := false }
def FnExactRotateSaid : Prop := fnExactRotateRow.holds Try.pinned (OpenSpec.ofChange fnExactRotateSpec)

/-- ITS FALSE NEIGHBOUR: 'it returns false'. Refute it at one input. -/
def fnExactRotateWrong : ChangeSpec := { name := "fnExactRotate", fn := fun _ => fun
  | [d1, d2] => { results := [.lit (.bool false)], args := [d1, d2] }
  | _ => none }
def FnExactRotateWrongFalsely : Prop := fnExactRotateRow.holds Try.pinned (OpenSpec.ofChange fnExactRotateWrong)

/-- 'laws.FnExactFlip': WHATEVER THE INPUT: true; the input reads as it did. -/
def fnExactFlipSpec : ChangeSpec := { name := "fnExactFlip", fn := fun _ => fun
  | [d] => { results := [.lit (.bool true)], args := [d] }
  | _ => none }
def fnExactFlipRow : OpenClaim := { program := "ytcnbajdnlkcjjaa", sum := "af18c22002d93ea3b9bb7cc80fbadcccd552deed85f6396f35b410fbb0c44c26", func := "loop.example/g00182/laws.FnExactFlip", spec := "fnExactFlip", unfollowed := true, recurses := true, apart := false }
def FnExactFlipSaid : Prop := fnExactFlipRow.holds Try.pinned (OpenSpec.ofChange fnExactFlipSpec)

/-- ITS FALSE NEIGHBOUR: 'it returns false'. Refute it at one input. -/
def fnExactFlipWrong : ChangeSpec := { name := "fnExactFlip", fn := fun _ => fun
  | [d] => { results := [.lit (.bool false)], args := [d] }
  | _ => none }
def FnExactFlipWrongFalsely : Prop := fnExactFlipRow.holds Try.pinned (OpenSpec.ofChange fnExactFlipWrong)

/-- 'laws.FnExactCopy': WHATEVER THE INPUT: true; the input reads as it did. -/
def fnExactCopySpec : ChangeSpec := { name := "fnExactCopy", fn := fun _ => fun
  | [d1, d2] => { results := [.lit (.bool true)], args := [d1, d2] }
  | _ => none }
def fnExactCopyRow : OpenClaim := { program := "ytcnbajdnlkcjjaa", sum := "af18c22002d93ea3b9bb7cc80fbadcccd552deed85f6396f35b410fbb0c44c26", func := "loop.example/g00182/laws.FnExactCopy", spec := "fnExactCopy", unfollowed := true, recurses := true, apart := false }
def FnExactCopySaid : Prop := fnExactCopyRow.holds Try.pinned (OpenSpec.ofChange fnExactCopySpec)

/-- ITS FALSE NEIGHBOUR: 'it returns false'. Refute it at one input. -/
def fnExactCopyWrong : ChangeSpec := { name := "fnExactCopy", fn := fun _ => fun
  | [d1, d2] => { results := [.lit (.bool false)], args := [d1, d2] }
  | _ => none }
def FnExactCopyWrongFalsely : Prop := fnExactCopyRow.holds Try.pinned (OpenSpec.ofChange fnExactCopyWrong)

/-- 'laws.FnExactPick': WHATEVER THE INPUT: true; the input reads as it did. -/
def fnExactPickSpec : ChangeSpec := { name := "fnExactPick", fn := fun _ => fun
  | [d1, d2] => { results := [.lit (.bool true)], args := [d1, d2] }
  | _ => none }
def fnExactPickRow : OpenClaim := { program := "ytcnbajdnlkcjjaa", sum := "af18c22002d93ea3b9bb7cc80fbadcccd552deed85f6396f35b410fbb0c44c26", func := "loop.example/g00182/laws.FnExactPick", spec := "fnExactPick", unfollowed := true, recurses := true, apart := false }
def FnExactPickSaid : Prop := fnExactPickRow.holds Try.pinned (OpenSpec.ofChange fnExactPickSpec)

/-- ITS FALSE NEIGHBOUR: 'it returns false'. Refute it at one input. -/
def fnExactPickWrong : ChangeSpec := { name := "fnExactPick", fn := fun _ => fun
  | [d1, d2] => { results := [.lit (.bool false)], args := [d1, d2] }
  | _ => none }
def FnExactPickWrongFalsely : Prop := fnExactPickRow.holds Try.pinned (OpenSpec.ofChange fnExactPickWrong)

/-- 'laws.FnReshaped': WHATEVER THE INPUT: true; the input reads as it did. -/
def fnReshapedSpec : ChangeSpec := { name := "fnReshaped", fn := fun _ => fun
  | [d] => { results := [.lit (.bool true)], args := [d] }
  | _ => none }
def fnReshapedRow : OpenClaim := { program := "ytcnbajdnlkcjjaa", sum := "af18c22002d93ea3b9bb7cc80fbadcccd552deed85f6396f35b410fbb0c44c26", func := "loop.example/g00182/laws.FnReshaped", spec := "fnReshaped", unfollowed := true, recurses := true, apart := false }
def FnReshapedSaid : Prop := fnReshapedRow.holds Try.pinned (OpenSpec.ofChange fnReshapedSpec)

/-- ITS FALSE NEIGHBOUR: 'it returns false'. Refute it at one input. -/
def fnReshapedWrong : ChangeSpec := { name := "fnReshaped", fn := fun _ => fun
  | [d] => { results := [.lit (.bool false)], args := [d] }
  | _ => none }
def FnReshapedWrongFalsely : Prop := fnReshapedRow.holds Try.pinned (OpenSpec.ofChange fnReshapedWrong)

/-- 'laws.FnExactJoin': WHATEVER THE INPUT: true; the input reads as it did. -/
def fnExactJoinSpec : ChangeSpec := { name := "fnExactJoin", fn := fun _ => fun
  | [d1, d2] => { results := [.lit (.bool true)], args := [d1, d2] }
  | _ => none }
def fnExactJoinRow : OpenClaim := { program := "ytcnbajdnlkcjjaa", sum := "af18c22002d93ea3b9bb7cc80fbadcccd552deed85f6396f35b410fbb0c44c26", func := "loop.example/g00182/laws.FnExactJoin", spec := "fnExactJoin", unfollowed := true, recurses := true, apart := false }
def FnExactJoinSaid : Prop := fnExactJoinRow.holds Try.pinned (OpenSpec.ofChange fnExactJoinSpec)

/-- ITS FALSE NEIGHBOUR: 'it returns false'. Refute it at one input. -/
def fnExactJoinWrong : ChangeSpec := { name := "fnExactJoin", fn := fun _ => fun
  | [d1, d2] => { results := [.lit (.bool false)], args := [d1, d2] }
  | _ => none }
def FnExactJoinWrongFalsely : Prop := fnExactJoinRow.holds Try.pinned (OpenSpec.ofChange fnExactJoinWrong)

/-- 'laws.FnExactEachOne': WHATEVER THE INPUT: true; the input reads as it did. -/
def fnExactEachOneSpec : ChangeSpec := { name := "fnExactEachOne", fn := fun _ => fun
  | [d1, d2] => { results := [.lit (.bool true)], args := [d1, d2] }
  | _ => none }
def fnExactEachOneRow : OpenClaim := { program := "ytcnbajdnlkcjjaa", sum := "af18c22002d93ea3b9bb7cc80fbadcccd552deed85f6396f35b410fbb0c44c26", func := "loop.example/g00182/laws.FnExactEachOne", spec := "fnExactEachOne", unfollowed := true, recurses := true, apart := false }
def FnExactEachOneSaid : Prop := fnExactEachOneRow.holds Try.pinned (OpenSpec.ofChange fnExactEachOneSpec)

/-- ITS FALSE NEIGHBOUR: 'it returns false'. Refute it at one input. -/
def fnExactEachOneWrong : ChangeSpec := { name := "fnExactEachOne", fn := fun _ => fun
  | [d1, d2] => { results := [.lit (.bool false)], args := [d1, d2] }
  | _ => none }
def FnExactEachOneWrongFalsely : Prop := fnExactEachOneRow.holds Try.pinned (OpenSpec.ofChange fnExactEachOneWrong)

/-- 'laws.FnExactDrop': WHATEVER THE INPUT: true; the input reads as it did. -/
def fnExactDropSpec : ChangeSpec := { name := "fnExactDrop", fn := fun _ => fun
  | [d1, d2] => { results := [.lit (.bool true)], args := [d1, d2] }
  | _ => none }
def fnExactDropRow : OpenClaim := { program := "ytcnbajdnlkcjjaa", sum := "af18c22002d93ea3b9bb7cc80fbadcccd552deed85f6396f35b410fbb0c44c26", func := "loop.example/g00182/laws.FnExactDrop", spec := "fnExactDrop", unfollowed := true, recurses := true, apart := false }
def FnExactDropSaid : Prop := fnExactDropRow.holds Try.pinned (OpenSpec.ofChange fnExactDropSpec)

/-- ITS FALSE NEIGHBOUR: 'it returns false'. Refute it at one input. -/
def fnExactDropWrong : ChangeSpec := { name := "fnExactDrop", fn := fun _ => fun
  | [d1, d2] => { results := [.lit (.bool false)], args := [d1, d2] }
  | _ => none }
def FnExactDropWrongFalsely : Prop := fnExactDropRow.holds Try.pinned (OpenSpec.ofChange fnExactDropWrong)

/- THE SECOND FORM. 'bulk': how many values and letters a reading holds, each counted each time it is reached (what is shared counts as often as it is met; a slice's spare places count too). A statement '..UptoSaid' is the law's where the arguments, and the package variables that the reading takes, are together of bulk at most 1048576: NARROWER than '..Said'. Prove '..Said' where nothing that the law and all that it calls make is longer than what came in: it says more and counts as full. Else prove '..UptoSaid'. A law counts once. -/
mutual
def uptoBulk {H : Type} : DataW H → Nat
  | .lit (.string bytes) => bytes.length + 1
  | .lit _ => 1
  | .nil => 1
  | .ptr d => uptoBulk d + 1
  | .slice elems spare => uptoBulkAll elems + uptoBulkAll spare + 1
  | .agg parts => uptoBulkAll parts + 1
  | .iface _ d => uptoBulk d + 1
  | .map entries => uptoBulkEntries entries + 1
  | .held _ => 1
def uptoBulkAll {H : Type} : List (DataW H) → Nat
  | [] => 0
  | d :: r => uptoBulk d + uptoBulkAll r
def uptoBulkEntries {H : Type} : List (Lit × DataW H) → Nat
  | [] => 0
  | x :: r => uptoBulkEntry x + uptoBulkEntries r
def uptoBulkEntry {H : Type} : Lit × DataW H → Nat
  | (.string bytes, d) => bytes.length + uptoBulk d + 1
  | (_, d) => uptoBulk d + 1
 end
def uptoSmall : (H : Type) → List (DataW H) → Bool := fun _ ds => decide (uptoBulkAll ds ≤ 1048576)
def OpenSpec.upto (s : _root_.Go.ChangeSpec) : _root_.Go.OpenSpec := { _root_.Go.OpenSpec.ofChange s with cond := some uptoSmall }

/-- 'laws.FnExactWithin', WHERE WHAT IT READS IS OF BULK AT MOST 1048576: true; the input reads as it did. -/
def fnExactWithinUptoRow : OpenClaim := { program := "ytcnbajdnlkcjjaa", sum := "af18c22002d93ea3b9bb7cc80fbadcccd552deed85f6396f35b410fbb0c44c26", func := "loop.example/g00182/laws.FnExactWithin", spec := "fnExactWithin", unfollowed := true, recurses := true, apart := false, narrowed := true }
def FnExactWithinUptoSaid : Prop := fnExactWithinUptoRow.holds Try.pinned (OpenSpec.upto fnExactWithinSpec)

/-- 'laws.FnRavel', WHERE WHAT IT READS IS OF BULK AT MOST 1048576: true; the input reads as it did. -/
def fnRavelUptoRow : OpenClaim := { program := "ytcnbajdnlkcjjaa", sum := "af18c22002d93ea3b9bb7cc80fbadcccd552deed85f6396f35b410fbb0c44c26", func := "loop.example/g00182/laws.FnRavel", spec := "fnRavel", unfollowed := true, recurses := true, apart := false, narrowed := true }
def FnRavelUptoSaid : Prop := fnRavelUptoRow.holds Try.pinned (OpenSpec.upto fnRavelSpec)

/-- 'laws.FnExactTurn', WHERE WHAT IT READS IS OF BULK AT MOST 1048576: true; the input reads as it did. -/
def fnExactTurnUptoRow : OpenClaim := { program := "ytcnbajdnlkcjjaa", sum := "af18c22002d93ea3b9bb7cc80fbadcccd552deed85f6396f35b410fbb0c44c26", func := "loop.example/g00182/laws.FnExactTurn", spec := "fnExactTurn", unfollowed := true, recurses := true, apart := false, narrowed := true }
def FnExactTurnUptoSaid : Prop := fnExactTurnUptoRow.holds Try.pinned (OpenSpec.upto fnExactTurnSpec)

/-- 'laws.FnRows', WHERE WHAT IT READS IS OF BULK AT MOST 1048576: true; the input reads as it did. -/
def fnRowsUptoRow : OpenClaim := { program := "ytcnbajdnlkcjjaa", sum := "af18c22002d93ea3b9bb7cc80fbadcccd552deed85f6396f35b410fbb0c44c26", func := "loop.example/g00182/laws.FnRows", spec := "fnRows", unfollowed := true, recurses := true, apart := false, narrowed := true }
def FnRowsUptoSaid : Prop := fnRowsUptoRow.holds Try.pinned (OpenSpec.upto fnRowsSpec)

/-- 'laws.FnExactRotate', WHERE WHAT IT READS IS OF BULK AT MOST 1048576: true; the input reads as it did. -/
def fnExactRotateUptoRow : OpenClaim := { program := "ytcnbajdnlkcjjaa", sum := "af18c22002d93ea3b9bb7cc80fbadcccd552deed85f6396f35b410fbb0c44c26", func := "loop.example/g00182/laws.FnExactRotate", spec := "fnExactRotate", unfollowed := true, recurses := true, apart := false, narrowed := true }
def FnExactRotateUptoSaid : Prop := fnExactRotateUptoRow.holds Try.pinned (OpenSpec.upto fnExactRotateSpec)

/-- 'laws.FnExactFlip', WHERE WHAT IT READS IS OF BULK AT MOST 1048576: true; the input reads as it did. -/
def fnExactFlipUptoRow : OpenClaim := { program := "ytcnbajdnlkcjjaa", sum := "af18c22002d93ea3b9bb7cc80fbadcccd552deed85f6396f35b410fbb0c44c26", func := "loop.example/g00182/laws.FnExactFlip", spec := "fnExactFlip", unfollowed := true, recurses := true, apart := false, narrowed := true }
def FnExactFlipUptoSaid : Prop := fnExactFlipUptoRow.holds Try.pinned (OpenSpec.upto fnExactFlipSpec)

/-- 'laws.FnExactCopy', WHERE WHAT IT READS IS OF BULK AT MOST 1048576: true; the input reads as it did. -/
def fnExactCopyUptoRow : OpenClaim := { program := "ytcnbajdnlkcjjaa", sum := "af18c22002d93ea3b9bb7cc80fbadcccd552deed85f6396f35b410fbb0c44c26", func := "loop.example/g00182/laws.FnExactCopy", spec := "fnExactCopy", unfollowed := true, recurses := true, apart := false, narrowed := true }
def FnExactCopyUptoSaid : Prop := fnExactCopyUptoRow.holds Try.pinned (OpenSpec.upto fnExactCopySpec)

/-- 'laws.FnExactPick', WHERE WHAT IT READS IS OF BULK AT MOST 1048576: true; the input reads as it did. -/
def fnExactPickUptoRow : OpenClaim := { program := "ytcnbajdnlkcjjaa", sum := "af18c22002d93ea3b9bb7cc80fbadcccd552deed85f6396f35b410fbb0c44c26", func := "loop.example/g00182/laws.FnExactPick", spec := "fnExactPick", unfollowed := true, recurses := true, apart := false, narrowed := true }
def FnExactPickUptoSaid : Prop := fnExactPickUptoRow.holds Try.pinned (OpenSpec.upto fnExactPickSpec)

/-- 'laws.FnReshaped', WHERE WHAT IT READS IS OF BULK AT MOST 1048576: true; the input reads as it did. -/
def fnReshapedUptoRow : OpenClaim := { program := "ytcnbajdnlkcjjaa", sum := "af18c22002d93ea3b9bb7cc80fbadcccd552deed85f6396f35b410fbb0c44c26", func := "loop.example/g00182/laws.FnReshaped", spec := "fnReshaped", unfollowed := true, recurses := true, apart := false, narrowed := true }
def FnReshapedUptoSaid : Prop := fnReshapedUptoRow.holds Try.pinned (OpenSpec.upto fnReshapedSpec)

/-- 'laws.FnExactJoin', WHERE WHAT IT READS IS OF BULK AT MOST 1048576: true; the input reads as it did. -/
def fnExactJoinUptoRow : OpenClaim := { program := "ytcnbajdnlkcjjaa", sum := "af18c22002d93ea3b9bb7cc80fbadcccd552deed85f6396f35b410fbb0c44c26", func := "loop.example/g00182/laws.FnExactJoin", spec := "fnExactJoin", unfollowed := true, recurses := true, apart := false, narrowed := true }
def FnExactJoinUptoSaid : Prop := fnExactJoinUptoRow.holds Try.pinned (OpenSpec.upto fnExactJoinSpec)

/-- 'laws.FnExactEachOne', WHERE WHAT IT READS IS OF BULK AT MOST 1048576: true; the input reads as it did. -/
def fnExactEachOneUptoRow : OpenClaim := { program := "ytcnbajdnlkcjjaa", sum := "af18c22002d93ea3b9bb7cc80fbadcccd552deed85f6396f35b410fbb0c44c26", func := "loop.example/g00182/laws.FnExactEachOne", spec := "fnExactEachOne", unfollowed := true, recurses := true, apart := false, narrowed := true }
def FnExactEachOneUptoSaid : Prop := fnExactEachOneUptoRow.holds Try.pinned (OpenSpec.upto fnExactEachOneSpec)

/-- 'laws.FnExactDrop', WHERE WHAT IT READS IS OF BULK AT MOST 1048576: true; the input reads as it did. -/
def fnExactDropUptoRow : OpenClaim := { program := "ytcnbajdnlkcjjaa", sum := "af18c22002d93ea3b9bb7cc80fbadcccd552deed85f6396f35b410fbb0c44c26", func := "loop.example/g00182/laws.FnExactDrop", spec := "fnExactDrop", unfollowed := true, recurses := true, apart := false, narrowed := true }
def FnExactDropUptoSaid : Prop := fnExactDropUptoRow.holds Try.pinned (OpenSpec.upto fnExactDropSpec)

end Rows
end Go.Proofs.Ytcnbajdnlkcjjaa
