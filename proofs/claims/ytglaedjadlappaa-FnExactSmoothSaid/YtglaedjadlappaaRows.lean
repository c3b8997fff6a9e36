/-
  No cell of these rows narrows 'for every input' (looked for: loops, veiled, ifaces, maps, wideKeys, modest, calm, conditions, laid).
  DERIVED. THE GIVEN ROWS OF THIS SEAT. 12 by the template 'for every input the law returns true; each argument reads behind the call as it read before'; 0 by the template 'total and deterministic' (their statements: YtglaedjadlappaaTotals.lean).
  GIVEN WITH THE SEED: the statements are not yours to turn. If you find one false, say at which input.
  Laid BY PROGRAM, IN A SANDBOX (cutbox-rows.mjs): the forced cells as the released guide's own fill.sh prints them over the translation ca663bac483ba042… (all of the seat's roots in one cut). By AI agents, Wed Nov 11 2026. No macro, syntax, notation, axiom, sorry.
-/
import Derived.Test.YtglaedjadlappaaChecked
import GoSem.Claim
import GoSem.ClaimJoined
import GoSem.ClaimMapViews
import Derived.JoinedTies
import Derived.KernelRfl
namespace Go.Proofs.Ytglaedjadlappaa
/- THE CELL 'sum', in the pinned program and in every row, IS THE sha256 OF THE DUMP (.gsa) THAT YtglaedjadlappaaProg.lean LOADS. Nothing in Lean hashes anything: it is a label: what it is worth is what the hold of that sum in a sandbox is worth. -/
noncomputable def Try.pinned : Pinned := { name := "ytglaedjadlappaa", sum := "ca663bac483ba04218764aefa70ade2b8884f0b3fcfcfb5a32d31dc4670fe557", checked := Try.checked }
namespace Rows
def none {H : Type} : Left H := { results := [], args := [] }

/-- 'laws.FnExactBestMotion': WHATEVER THE INPUT: true; the input reads as it did. -/
def fnExactBestMotionSpec : ChangeSpec := { name := "fnExactBestMotion", fn := fun _ => fun
  | [d1, d2, d3, d4, d5, d6, d7] => { results := [.lit (.bool true)], args := [d1, d2, d3, d4, d5, d6, d7] }
  | _ => none }
def fnExactBestMotionRow : OpenClaim := { program := "ytglaedjadlappaa", sum := "ca663bac483ba04218764aefa70ade2b8884f0b3fcfcfb5a32d31dc4670fe557", func := "loop.example/g00016/laws.FnExactBestMotion", spec := "fnExactBestMotion", unfollowed := true, recurses := true, apart := false }
def FnExactBestMotionSaid : Prop := fnExactBestMotionRow.holds Try.pinned (OpenSpec.ofChange fnExactBestMotionSpec)

/-- ITS FALSE NEIGHBOUR: 'it returns false'. Refute it at one input. -/
def fnExactBestMotionWrong : ChangeSpec := { name := "fnExactBestMotion", fn := fun _ => fun
  | [d1, d2, d3, d4, d5, d6, d7] => { results := [.lit (.bool false)], args := [d1, d2, d3, d4, d5, d6, d7] }
  | _ => none }
def FnExactBestMotionWrongFalsely : Prop := fnExactBestMotionRow.holds Try.pinned (OpenSpec.ofChange fnExactBestMotionWrong)

/-- 'laws.FnExactJoinPieces': WHATEVER THE INPUT: true; the input reads as it did. -/
def fnExactJoinPiecesSpec : ChangeSpec := { name := "fnExactJoinPieces", fn := fun _ => fun
  | [d] => { results := [.lit (.bool true)], args := [d] }
  | _ => none }
def fnExactJoinPiecesRow : OpenClaim := { program := "ytglaedjadlappaa", sum := "ca663bac483ba04218764aefa70ade2b8884f0b3fcfcfb5a32d31dc4670fe557", func := "loop.example/g00016/laws.FnExactJoinPieces", spec := "fnExactJoinPieces", apart := false }
def FnExactJoinPiecesSaid : Prop := fnExactJoinPiecesRow.holds Try.pinned (OpenSpec.ofChange fnExactJoinPiecesSpec)

/-- ITS FALSE NEIGHBOUR: 'it returns false'. Refute it at one input. -/
def fnExactJoinPiecesWrong : ChangeSpec := { name := "fnExactJoinPieces", fn := fun _ => fun
  | [d] => { results := [.lit (.bool false)], args := [d] }
  | _ => none }
def FnExactJoinPiecesWrongFalsely : Prop := fnExactJoinPiecesRow.holds Try.pinned (OpenSpec.ofChange fnExactJoinPiecesWrong)

/-- 'laws.FnBetween': WHATEVER THE INPUT: true; the input reads as it did. -/
def fnBetweenSpec : ChangeSpec := { name := "fnBetween", fn := fun _ => fun
  | [d] => { results := [.lit (.bool true)], args := [d] }
  | _ => none }
def fnBetweenRow : OpenClaim := { program := "ytglaedjadlappaa", sum := "ca663bac483ba04218764aefa70ade2b8884f0b3fcfcfb5a32d31dc4670fe557", func := "loop.example/g00016/laws.FnBetween", spec := "fnBetween", apart := false }
def FnBetweenSaid : Prop := fnBetweenRow.holds Try.pinned (OpenSpec.ofChange fnBetweenSpec)

/-- ITS FALSE NEIGHBOUR: 'it returns false'. Refute it at one input. -/
def fnBetweenWrong : ChangeSpec := { name := "fnBetween", fn := fun _ => fun
  | [d] => { results := [.lit (.bool false)], args := [d] }
  | _ => none }
def FnBetweenWrongFalsely : Prop := fnBetweenRow.holds Try.pinned (OpenSpec.ofChange fnBetweenWrong)

/-- 'laws.FnExactBetween': WHATEVER THE INPUT: true; the input reads as it did. -/
def fnExactBetweenSpec : ChangeSpec := { name := "fnExactBetween", fn := fun _ => fun
  | [d1, d2, d3, d4] => { results := [.lit (.bool true)], args := [d1, d2, d3, d4] }
  | _ => none }
def fnExactBetweenRow : OpenClaim := { program := "ytglaedjadlappaa", sum := "ca663bac483ba04218764aefa70ade2b8884f0b3fcfcfb5a32d31dc4670fe557", func := "loop.example/g00016/laws.FnExactBetween", spec := "fnExactBetween", apart := false }
def FnExactBetweenSaid : Prop := fnExactBetweenRow.holds Try.pinned (OpenSpec.ofChange fnExactBetweenSpec)

/-- ITS FALSE NEIGHBOUR: 'it returns false'. Refute it at one input. -/
def fnExactBetweenWrong : ChangeSpec := { name := "fnExactBetween", fn := fun _ => fun
  | [d1, d2, d3, d4] => { results := [.lit (.bool false)], args := [d1, d2, d3, d4] }
  | _ => none }
def FnExactBetweenWrongFalsely : Prop := fnExactBetweenRow.holds Try.pinned (OpenSpec.ofChange fnExactBetweenWrong)

/-- 'laws.FnExactPlanCost': WHATEVER THE INPUT: true; the input reads as it did. -/
def fnExactPlanCostSpec : ChangeSpec := { name := "fnExactPlanCost", fn := fun _ => fun
  | [d1, d2] => { results := [.lit (.bool true)], args := [d1, d2] }
  | _ => none }
def fnExactPlanCostRow : OpenClaim := { program := "ytglaedjadlappaa", sum := "ca663bac483ba04218764aefa70ade2b8884f0b3fcfcfb5a32d31dc4670fe557", func := "loop.example/g00016/laws.FnExactPlanCost", spec := "fnExactPlanCost", apart := false }
def FnExactPlanCostSaid : Prop := fnExactPlanCostRow.holds Try.pinned (OpenSpec.ofChange fnExactPlanCostSpec)

/-- ITS FALSE NEIGHBOUR: 'it returns false'. Refute it at one input. -/
def fnExactPlanCostWrong : ChangeSpec := { name := "fnExactPlanCost", fn := fun _ => fun
  | [d1, d2] => { results := [.lit (.bool false)], args := [d1, d2] }
  | _ => none }
def FnExactPlanCostWrongFalsely : Prop := fnExactPlanCostRow.holds Try.pinned (OpenSpec.ofChange fnExactPlanCostWrong)

/-- 'laws.FnExactDue': WHATEVER THE INPUT: true; the input reads as it did. -/
def fnExactDueSpec : ChangeSpec := { name := "fnExactDue", fn := fun _ => fun
  | [d1, d2] => { results := [.lit (.bool true)], args := [d1, d2] }
  | _ => none }
def fnExactDueRow : OpenClaim := { program := "ytglaedjadlappaa", sum := "ca663bac483ba04218764aefa70ade2b8884f0b3fcfcfb5a32d31dc4670fe557", func := "loop.example/g00016/laws.FnExactDue", spec := "fnExactDue", apart := false }
def FnExactDueSaid : Prop := fnExactDueRow.holds Try.pinned (OpenSpec.ofChange fnExactDueSpec)

/-- ITS FALSE NEIGHBOUR: 'it returns false'. Refute it at one input. -/
def fnExactDueWrong : ChangeSpec := { name := "fnExactDue", fn := fun _ => fun
  | [d1, d2] => { results := [.lit (.bool false)], args := [d1, d2] }
  | _ => none }
def FnExactDueWrongFalsely : Prop := fnExactDueRow.holds Try.pinned (OpenSpec.ofChange fnExactDueWrong)

/-- 'laws.FnBits': WHATEVER THE INPUT: true; the input reads as it did. -/
def fnBitsSpec : ChangeSpec := { name := "fnBits", fn := fun _ => fun
  | [d] => { results := [.lit (.bool true)], args := [d] }
  | _ => none }
def fnBitsRow : OpenClaim := { program := "ytglaedjadlappaa", sum := "ca663bac483ba04218764aefa70ade2b8884f0b3fcfcfb5a32d31dc4670fe557", func := "loop.example/g00016/laws.FnBits", spec := "fnBits", apart := false }
def FnBitsSaid : Prop := fnBitsRow.holds Try.pinned (OpenSpec.ofChange fnBitsSpec)

/-- ITS FALSE NEIGHBOUR: 'it returns false'. Refute it at one input. -/
def fnBitsWrong : ChangeSpec := { name := "fnBits", fn := fun _ => fun
  | [d] => { results := [.lit (.bool false)], args := [d] }
  | _ => none }
def FnBitsWrongFalsely : Prop := fnBitsRow.holds Try.pinned (OpenSpec.ofChange fnBitsWrong)

/-- 'laws.FnRows': WHATEVER THE INPUT: true; the input reads as it did. -/
def fnRowsSpec : ChangeSpec := { name := "fnRows", fn := fun _ => fun
  | [d] => { results := [.lit (.bool true)], args := [d] }
  | _ => none }
def fnRowsRow : OpenClaim := { program := "ytglaedjadlappaa", sum := "ca663bac483ba04218764aefa70ade2b8884f0b3fcfcfb5a32d31dc4670fe557", func := "loop.example/g00016/laws.FnRows", spec := "fnRows", apart := false }
def FnRowsSaid : Prop := fnRowsRow.holds Try.pinned (OpenSpec.ofChange fnRowsSpec)

/-- ITS FALSE NEIGHBOUR: 'it returns false'. Refute it at one input. -/
def fnRowsWrong : ChangeSpec := { name := "fnRows", fn := fun _ => fun
  | [d] => { results := [.lit (.bool false)], args := [d] }
  | _ => none }
def FnRowsWrongFalsely : Prop := fnRowsRow.holds Try.pinned (OpenSpec.ofChange fnRowsWrong)

/-- 'laws.FnExactSmooth': WHATEVER THE INPUT: true; the input reads as it did. -/
def fnExactSmoothSpec : ChangeSpec := { name := "fnExactSmooth", fn := fun _ => fun
  | [d1, d2] => { results := [.lit (.bool true)], args := [d1, d2] }
  | _ => none }
def fnExactSmoothRow : OpenClaim := { program := "ytglaedjadlappaa", sum := "ca663bac483ba04218764aefa70ade2b8884f0b3fcfcfb5a32d31dc4670fe557", func := "loop.example/g00016/laws.FnExactSmooth", spec := "fnExactSmooth", unfollowed := true, recurses := true, apart := false }
def FnExactSmoothSaid : Prop := fnExactSmoothRow.holds Try.pinned (OpenSpec.ofChange fnExactSmoothSpec)

/-- ITS FALSE NEIGHBOUR: 'it returns false'. Refute it at one input. -/
def fnExactSmoothWrong : ChangeSpec := { name := "fnExactSmooth", fn := fun _ => fun
  | [d1, d2] => { results := [.lit (.bool false)], args := [d1, d2] }
  | _ => none }
def FnExactSmoothWrongFalsely : Prop := fnExactSmoothRow.holds Try.pinned (OpenSpec.ofChange fnExactSmoothWrong)

/-- 'laws.FnExactGoodClip': WHATEVER THE INPUT: true; the input reads as it did. -/
def fnExactGoodClipSpec : ChangeSpec := { name := "fnExactGoodClip", fn := fun _ => fun
  | [d] => { results := [.lit (.bool true)], args := [d] }
  | _ => none }
def fnExactGoodClipRow : OpenClaim := { program := "ytglaedjadlappaa", sum := "ca663bac483ba04218764aefa70ade2b8884f0b3fcfcfb5a32d31dc4670fe557", func := "loop.example/g00016/laws.FnExactGoodClip", spec := "fnExactGoodClip", apart := false }
def FnExactGoodClipSaid : Prop := fnExactGoodClipRow.holds Try.pinned (OpenSpec.ofChange fnExactGoodClipSpec)

/-- ITS FALSE NEIGHBOUR: 'it returns false'. Refute it at one input. -/
def fnExactGoodClipWrong : ChangeSpec := { name := "fnExactGoodClip", fn := fun _ => fun
  | [d] => { results := [.lit (.bool false)], args := [d] }
  | _ => none }
def FnExactGoodClipWrongFalsely : Prop := fnExactGoodClipRow.holds Try.pinned (OpenSpec.ofChange fnExactGoodClipWrong)

/-- 'laws.FnExactGoodPhoto': WHATEVER THE INPUT: true; the input reads as it did. -/
def fnExactGoodPhotoSpec : ChangeSpec := { name := "fnExactGoodPhoto", fn := fun _ => fun
  | [d] => { results := [.lit (.bool true)], args := [d] }
  | _ => none }
def fnExactGoodPhotoRow : OpenClaim := { program := "ytglaedjadlappaa", sum := "ca663bac483ba04218764aefa70ade2b8884f0b3fcfcfb5a32d31dc4670fe557", func := "loop.example/g00016/laws.FnExactGoodPhoto", spec := "fnExactGoodPhoto", apart := false }
def FnExactGoodPhotoSaid : Prop := fnExactGoodPhotoRow.holds Try.pinned (OpenSpec.ofChange fnExactGoodPhotoSpec)

/-- ITS FALSE NEIGHBOUR: 'it returns false'. Refute it at one input. -/
def fnExactGoodPhotoWrong : ChangeSpec := { name := "fnExactGoodPhoto", fn := fun _ => fun
  | [d] => { results := [.lit (.bool false)], args := [d] }
  | _ => none }
def FnExactGoodPhotoWrongFalsely : Prop := fnExactGoodPhotoRow.holds Try.pinned (OpenSpec.ofChange fnExactGoodPhotoWrong)

/-- 'laws.FnExactMoved': WHATEVER THE INPUT: true; the input reads as it did. -/
def fnExactMovedSpec : ChangeSpec := { name := "fnExactMoved", fn := fun _ => fun
  | [d1, d2, d3, d4] => { results := [.lit (.bool true)], args := [d1, d2, d3, d4] }
  | _ => none }
def fnExactMovedRow : OpenClaim := { program := "ytglaedjadlappaa", sum := "ca663bac483ba04218764aefa70ade2b8884f0b3fcfcfb5a32d31dc4670fe557", func := "loop.example/g00016/laws.FnExactMoved", spec := "fnExactMoved", unfollowed := true, recurses := true, apart := false }
def FnExactMovedSaid : Prop := fnExactMovedRow.holds Try.pinned (OpenSpec.ofChange fnExactMovedSpec)

/-- ITS FALSE NEIGHBOUR: 'it returns false'. Refute it at one input. -/
def fnExactMovedWrong : ChangeSpec := { name := "fnExactMoved", fn := fun _ => fun
  | [d1, d2, d3, d4] => { results := [.lit (.bool false)], args := [d1, d2, d3, d4] }
  | _ => none }
def FnExactMovedWrongFalsely : Prop := fnExactMovedRow.holds Try.pinned (OpenSpec.ofChange fnExactMovedWrong)

/- THE SECOND FORM. 'bulk': how many values and letters a reading holds, each counted each time it is reached (what is shared counts as often as it is met; a slice's spare places count too). A statement '..UptoSaid' is the law's where the arguments, and the package variables that the reading takes, are together of bulk at most 1048576: NARROWER than '..Said'. Prove '..Said' where nothing that the law and all that it calls make is longer than what came in: it says more and counts as full. Else prove '..UptoSaid'. A law counts once. -/
mutual
def uptoBulk {H : Type} : DataW H → Nat
  | .lit (.string bytes) => bytes.length + 1
  | .lit _ => 1
  | .nil => 1
  | .ptr d => uptoBulk d + 1
  | .slice elems spare => uptoBulkAll elems + uptoBulkAll spare + 1
  | .agg parts => uptoBulkAll parts + 1
  | .iface _ d => uptoBulk d + 1
  | .map entries => uptoBulkEntries entries + 1
  | .held _ => 1
def uptoBulkAll {H : Type} : List (DataW H) → Nat
  | [] => 0
  | d :: r => uptoBulk d + uptoBulkAll r
def uptoBulkEntries {H : Type} : List (Lit × DataW H) → Nat
  | [] => 0
  | x :: r => uptoBulkEntry x + uptoBulkEntries r
def uptoBulkEntry {H : Type} : Lit × DataW H → Nat
  | (.string bytes, d) => bytes.length + uptoBulk d + 1
  | (_, d) => uptoBulk d + 1
 end
def uptoSmall : (H : Type) → List (DataW H) → Bool := fun _ ds => decide (uptoBulkAll ds ≤ 1048576)
def OpenSpec.upto (s : _root_.Go.ChangeSpec) : _root_.Go.OpenSpec := { _root_.Go.OpenSpec.ofChange s with cond := some uptoSmall }

/-- 'laws.FnExactBestMotion', WHERE WHAT IT READS IS OF BULK AT MOST 1048576: true; the input reads as it did. -/
def fnExactBestMotionUptoRow : OpenClaim := { program := "ytglaedjadlappaa", sum := "ca663bac483ba04218764aefa70ade2b8884f0b3fcfcfb5a32d31dc4670fe557", func := "loop.example/g00016/laws.FnExactBestMotion", spec := "fnExactBestMotion", unfollowed := true, recurses := true, apart := false, narrowed := true }
def FnExactBestMotionUptoSaid : Prop := fnExactBestMotionUptoRow.holds Try.pinned (OpenSpec.upto fnExactBestMotionSpec)

/-- 'laws.FnExactJoinPieces', WHERE WHAT IT READS IS OF BULK AT MOST 1048576: true; the input reads as it did. -/
def fnExactJoinPiecesUptoRow : OpenClaim := { program := "ytglaedjadlappaa", sum := "ca663bac483ba04218764aefa70ade2b8884f0b3fcfcfb5a32d31dc4670fe557", func := "loop.example/g00016/laws.FnExactJoinPieces", spec := "fnExactJoinPieces", apart := false, narrowed := true }
def FnExactJoinPiecesUptoSaid : Prop := fnExactJoinPiecesUptoRow.holds Try.pinned (OpenSpec.upto fnExactJoinPiecesSpec)

/-- 'laws.FnBetween', WHERE WHAT IT READS IS OF BULK AT MOST 1048576: true; the input reads as it did. -/
def fnBetweenUptoRow : OpenClaim := { program := "ytglaedjadlappaa", sum := "ca663bac483ba04218764aefa70ade2b8884f0b3fcfcfb5a32d31dc4670fe557", func := "loop.example/g00016/laws.FnBetween", spec := "fnBetween", apart := false, narrowed := true }
def FnBetweenUptoSaid : Prop := fnBetweenUptoRow.holds Try.pinned (OpenSpec.upto fnBetweenSpec)

/-- 'laws.FnExactBetween', WHERE WHAT IT READS IS OF BULK AT MOST 1048576: true; the input reads as it did. -/
def fnExactBetweenUptoRow : OpenClaim := { program := "ytglaedjadlappaa", sum := "ca663bac483ba04218764aefa70ade2b8884f0b3fcfcfb5a32d31dc4670fe557", func := "loop.example/g00016/laws.FnExactBetween", spec := "fnExactBetween", apart := false, narrowed := true }
def FnExactBetweenUptoSaid : Prop := fnExactBetweenUptoRow.holds Try.pinned (OpenSpec.upto fnExactBetweenSpec)

/-- 'laws.FnExactPlanCost', WHERE WHAT IT READS IS OF BULK AT MOST 1048576: true; the input reads as it did. -/
def fnExactPlanCostUptoRow : OpenClaim := { program := "ytglaedjadlappaa", sum := "ca663bac483ba04218764aefa70ade2b8884f0b3fcfcfb5a32d31dc4670fe557", func := "loop.example/g00016/laws.FnExactPlanCost", spec := "fnExactPlanCost", apart := false, narrowed := true }
def FnExactPlanCostUptoSaid : Prop := fnExactPlanCostUptoRow.holds Try.pinned (OpenSpec.upto fnExactPlanCostSpec)

/-- 'laws.FnExactDue', WHERE WHAT IT READS IS OF BULK AT MOST 1048576: true; the input reads as it did. -/
def fnExactDueUptoRow : OpenClaim := { program := "ytglaedjadlappaa", sum := "ca663bac483ba04218764aefa70ade2b8884f0b3fcfcfb5a32d31dc4670fe557", func := "loop.example/g00016/laws.FnExactDue", spec := "fnExactDue", apart := false, narrowed := true }
def FnExactDueUptoSaid : Prop := fnExactDueUptoRow.holds Try.pinned (OpenSpec.upto fnExactDueSpec)

/-- 'laws.FnBits', WHERE WHAT IT READS IS OF BULK AT MOST 1048576: true; the input reads as it did. -/
def fnBitsUptoRow : OpenClaim := { program := "ytglaedjadlappaa", sum := "ca663bac483ba04218764aefa70ade2b8884f0b3fcfcfb5a32d31dc4670fe557", func := "loop.example/g00016/laws.FnBits", spec := "fnBits", apart := false, narrowed := true }
def FnBitsUptoSaid : Prop := fnBitsUptoRow.holds Try.pinned (OpenSpec.upto fnBitsSpec)

/-- 'laws.FnRows', WHERE WHAT IT READS IS OF BULK AT MOST 1048576: true; the input reads as it did. -/
def fnRowsUptoRow : OpenClaim := { program := "ytglaedjadlappaa", sum := "ca663bac483ba04218764aefa70ade2b8884f0b3fcfcfb5a32d31dc4670fe557", func := "loop.example/g00016/laws.FnRows", spec := "fnRows", apart := false, narrowed := true }
def FnRowsUptoSaid : Prop := fnRowsUptoRow.holds Try.pinned (OpenSpec.upto fnRowsSpec)

/-- 'laws.FnExactSmooth', WHERE WHAT IT READS IS OF BULK AT MOST 1048576: true; the input reads as it did. -/
def fnExactSmoothUptoRow : OpenClaim := { program := "ytglaedjadlappaa", sum := "ca663bac483ba04218764aefa70ade2b8884f0b3fcfcfb5a32d31dc4670fe557", func := "loop.example/g00016/laws.FnExactSmooth", spec := "fnExactSmooth", unfollowed := true, recurses := true, apart := false, narrowed := true }
def FnExactSmoothUptoSaid : Prop := fnExactSmoothUptoRow.holds Try.pinned (OpenSpec.upto fnExactSmoothSpec)

/-- 'laws.FnExactGoodClip', WHERE WHAT IT READS IS OF BULK AT MOST 1048576: true; the input reads as it did. -/
def fnExactGoodClipUptoRow : OpenClaim := { program := "ytglaedjadlappaa", sum := "ca663bac483ba04218764aefa70ade2b8884f0b3fcfcfb5a32d31dc4670fe557", func := "loop.example/g00016/laws.FnExactGoodClip", spec := "fnExactGoodClip", apart := false, narrowed := true }
def FnExactGoodClipUptoSaid : Prop := fnExactGoodClipUptoRow.holds Try.pinned (OpenSpec.upto fnExactGoodClipSpec)

/-- 'laws.FnExactGoodPhoto', WHERE WHAT IT READS IS OF BULK AT MOST 1048576: true; the input reads as it did. -/
def fnExactGoodPhotoUptoRow : OpenClaim := { program := "ytglaedjadlappaa", sum := "ca663bac483ba04218764aefa70ade2b8884f0b3fcfcfb5a32d31dc4670fe557", func := "loop.example/g00016/laws.FnExactGoodPhoto", spec := "fnExactGoodPhoto", apart := false, narrowed := true }
def FnExactGoodPhotoUptoSaid : Prop := fnExactGoodPhotoUptoRow.holds Try.pinned (OpenSpec.upto fnExactGoodPhotoSpec)

/-- 'laws.FnExactMoved', WHERE WHAT IT READS IS OF BULK AT MOST 1048576: true; the input reads as it did. -/
def fnExactMovedUptoRow : OpenClaim := { program := "ytglaedjadlappaa", sum := "ca663bac483ba04218764aefa70ade2b8884f0b3fcfcfb5a32d31dc4670fe557", func := "loop.example/g00016/laws.FnExactMoved", spec := "fnExactMoved", unfollowed := true, recurses := true, apart := false, narrowed := true }
def FnExactMovedUptoSaid : Prop := fnExactMovedUptoRow.holds Try.pinned (OpenSpec.upto fnExactMovedSpec)

end Rows
end Go.Proofs.Ytglaedjadlappaa
