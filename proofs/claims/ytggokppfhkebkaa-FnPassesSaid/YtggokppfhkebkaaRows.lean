/-
  No cell of these rows narrows 'for every input' (looked for: loops, veiled, ifaces, maps, wideKeys, modest, calm, conditions, laid).
  DERIVED. THE GIVEN ROWS OF THIS SEAT. 10 by the template 'for every input the law returns true; each argument reads behind the call as it read before'; 0 by the template 'total and deterministic' (their statements: YtggokppfhkebkaaTotals.lean).
  GIVEN WITH THE SEED: the statements are not yours to turn. If you find one false, say at which input.
  Laid BY PROGRAM, IN A SANDBOX (cutbox-rows.mjs): the forced cells as the released guide's own fill.sh prints them over the translation 3268b76e677fe6d9… (all of the seat's roots in one cut). By AI agents, Wed Nov 11 2026. No macro, syntax, notation, axiom, sorry.
-/
import Derived.Test.YtggokppfhkebkaaChecked
import GoSem.Claim
import GoSem.ClaimJoined
import GoSem.ClaimMapViews
import Derived.JoinedTies
import Derived.KernelRfl
namespace Go.Proofs.Ytggokppfhkebkaa
/- THE CELL 'sum', in the pinned program and in every row, IS THE sha256 OF THE DUMP (.gsa) THAT YtggokppfhkebkaaProg.lean LOADS. Nothing in Lean hashes anything: it is a label: what it is worth is what the hold of that sum in a sandbox is worth. -/
noncomputable def Try.pinned : Pinned := { name := "ytggokppfhkebkaa", sum := "3268b76e677fe6d97bd90b654d8005d04dfefad674b5dfaf9bb5f555b275d920", checked := Try.checked }
namespace Rows
def none {H : Type} : Left H := { results := [], args := [] }

/-- 'laws.FnExactWriteSymbols': WHATEVER THE INPUT: true; the input reads as it did. -/
def fnExactWriteSymbolsSpec : ChangeSpec := { name := "fnExactWriteSymbols", fn := fun _ => fun
  | [d1, d2] => { results := [.lit (.bool true)], args := [d1, d2] }
  | _ => none }
def fnExactWriteSymbolsRow : OpenClaim := { program := "ytggokppfhkebkaa", sum := "3268b76e677fe6d97bd90b654d8005d04dfefad674b5dfaf9bb5f555b275d920", func := "loop.example/g00016/laws.FnExactWriteSymbols", spec := "fnExactWriteSymbols", plainKeys := false, apart := false }
def FnExactWriteSymbolsSaid : Prop := fnExactWriteSymbolsRow.holds Try.pinned (OpenSpec.ofChange fnExactWriteSymbolsSpec)

/-- ITS FALSE NEIGHBOUR: 'it returns false'. Refute it at one input. -/
def fnExactWriteSymbolsWrong : ChangeSpec := { name := "fnExactWriteSymbols", fn := fun _ => fun
  | [d1, d2] => { results := [.lit (.bool false)], args := [d1, d2] }
  | _ => none }
def FnExactWriteSymbolsWrongFalsely : Prop := fnExactWriteSymbolsRow.holds Try.pinned (OpenSpec.ofChange fnExactWriteSymbolsWrong)

/-- 'laws.FnPasses': WHATEVER THE INPUT: true; the input reads as it did. -/
def fnPassesSpec : ChangeSpec := { name := "fnPasses", fn := fun _ => fun
  | [d] => { results := [.lit (.bool true)], args := [d] }
  | _ => none }
def fnPassesRow : OpenClaim := { program := "ytggokppfhkebkaa", sum := "3268b76e677fe6d97bd90b654d8005d04dfefad674b5dfaf9bb5f555b275d920", func := "loop.example/g00016/laws.FnPasses", spec := "fnPasses", plainKeys := false, apart := false }
def FnPassesSaid : Prop := fnPassesRow.holds Try.pinned (OpenSpec.ofChange fnPassesSpec)

/-- ITS FALSE NEIGHBOUR: 'it returns false'. Refute it at one input. -/
def fnPassesWrong : ChangeSpec := { name := "fnPasses", fn := fun _ => fun
  | [d] => { results := [.lit (.bool false)], args := [d] }
  | _ => none }
def FnPassesWrongFalsely : Prop := fnPassesRow.holds Try.pinned (OpenSpec.ofChange fnPassesWrong)

/-- 'laws.FnExactOddsPack': WHATEVER THE INPUT: true; the input reads as it did. -/
def fnExactOddsPackSpec : ChangeSpec := { name := "fnExactOddsPack", fn := fun _ => fun
  | [d1, d2] => { results := [.lit (.bool true)], args := [d1, d2] }
  | _ => none }
def fnExactOddsPackRow : OpenClaim := { program := "ytggokppfhkebkaa", sum := "3268b76e677fe6d97bd90b654d8005d04dfefad674b5dfaf9bb5f555b275d920", func := "loop.example/g00016/laws.FnExactOddsPack", spec := "fnExactOddsPack", unfollowed := true, recurses := true, plainKeys := false, apart := false }
def FnExactOddsPackSaid : Prop := fnExactOddsPackRow.holds Try.pinned (OpenSpec.ofChange fnExactOddsPackSpec)

/-- ITS FALSE NEIGHBOUR: 'it returns false'. Refute it at one input. -/
def fnExactOddsPackWrong : ChangeSpec := { name := "fnExactOddsPack", fn := fun _ => fun
  | [d1, d2] => { results := [.lit (.bool false)], args := [d1, d2] }
  | _ => none }
def FnExactOddsPackWrongFalsely : Prop := fnExactOddsPackRow.holds Try.pinned (OpenSpec.ofChange fnExactOddsPackWrong)

/-- 'laws.FnCoarse': WHATEVER THE INPUT: true; the input reads as it did. -/
def fnCoarseSpec : ChangeSpec := { name := "fnCoarse", fn := fun _ => fun
  | [d] => { results := [.lit (.bool true)], args := [d] }
  | _ => none }
def fnCoarseRow : OpenClaim := { program := "ytggokppfhkebkaa", sum := "3268b76e677fe6d97bd90b654d8005d04dfefad674b5dfaf9bb5f555b275d920", func := "loop.example/g00016/laws.FnCoarse", spec := "fnCoarse", plainKeys := false, apart := false }
def FnCoarseSaid : Prop := fnCoarseRow.holds Try.pinned (OpenSpec.ofChange fnCoarseSpec)

/-- ITS FALSE NEIGHBOUR: 'it returns false'. Refute it at one input. -/
def fnCoarseWrong : ChangeSpec := { name := "fnCoarse", fn := fun _ => fun
  | [d] => { results := [.lit (.bool false)], args := [d] }
  | _ => none }
def FnCoarseWrongFalsely : Prop := fnCoarseRow.holds Try.pinned (OpenSpec.ofChange fnCoarseWrong)

/-- 'laws.FnExactGoodMoving': WHATEVER THE INPUT: true; the input reads as it did. -/
def fnExactGoodMovingSpec : ChangeSpec := { name := "fnExactGoodMoving", fn := fun _ => fun
  | [d] => { results := [.lit (.bool true)], args := [d] }
  | _ => none }
def fnExactGoodMovingRow : OpenClaim := { program := "ytggokppfhkebkaa", sum := "3268b76e677fe6d97bd90b654d8005d04dfefad674b5dfaf9bb5f555b275d920", func := "loop.example/g00016/laws.FnExactGoodMoving", spec := "fnExactGoodMoving", plainKeys := false, apart := false }
def FnExactGoodMovingSaid : Prop := fnExactGoodMovingRow.holds Try.pinned (OpenSpec.ofChange fnExactGoodMovingSpec)

/-- ITS FALSE NEIGHBOUR: 'it returns false'. Refute it at one input. -/
def fnExactGoodMovingWrong : ChangeSpec := { name := "fnExactGoodMoving", fn := fun _ => fun
  | [d] => { results := [.lit (.bool false)], args := [d] }
  | _ => none }
def FnExactGoodMovingWrongFalsely : Prop := fnExactGoodMovingRow.holds Try.pinned (OpenSpec.ofChange fnExactGoodMovingWrong)

/-- 'laws.FnSmooth': WHATEVER THE INPUT: true; the input reads as it did. -/
def fnSmoothSpec : ChangeSpec := { name := "fnSmooth", fn := fun _ => fun
  | [d] => { results := [.lit (.bool true)], args := [d] }
  | _ => none }
def fnSmoothRow : OpenClaim := { program := "ytggokppfhkebkaa", sum := "3268b76e677fe6d97bd90b654d8005d04dfefad674b5dfaf9bb5f555b275d920", func := "loop.example/g00016/laws.FnSmooth", spec := "fnSmooth", unfollowed := true, recurses := true, plainKeys := false, apart := false }
def FnSmoothSaid : Prop := fnSmoothRow.holds Try.pinned (OpenSpec.ofChange fnSmoothSpec)

/-- ITS FALSE NEIGHBOUR: 'it returns false'. Refute it at one input. -/
def fnSmoothWrong : ChangeSpec := { name := "fnSmooth", fn := fun _ => fun
  | [d] => { results := [.lit (.bool false)], args := [d] }
  | _ => none }
def FnSmoothWrongFalsely : Prop := fnSmoothRow.holds Try.pinned (OpenSpec.ofChange fnSmoothWrong)

/-- 'laws.FnResidue': WHATEVER THE INPUT: true; the input reads as it did. -/
def fnResidueSpec : ChangeSpec := { name := "fnResidue", fn := fun _ => fun
  | [d] => { results := [.lit (.bool true)], args := [d] }
  | _ => none }
def fnResidueRow : OpenClaim := { program := "ytggokppfhkebkaa", sum := "3268b76e677fe6d97bd90b654d8005d04dfefad674b5dfaf9bb5f555b275d920", func := "loop.example/g00016/laws.FnResidue", spec := "fnResidue", plainKeys := false, apart := false }
def FnResidueSaid : Prop := fnResidueRow.holds Try.pinned (OpenSpec.ofChange fnResidueSpec)

/-- ITS FALSE NEIGHBOUR: 'it returns false'. Refute it at one input. -/
def fnResidueWrong : ChangeSpec := { name := "fnResidue", fn := fun _ => fun
  | [d] => { results := [.lit (.bool false)], args := [d] }
  | _ => none }
def FnResidueWrongFalsely : Prop := fnResidueRow.holds Try.pinned (OpenSpec.ofChange fnResidueWrong)

/-- 'laws.FnExactSplit': WHATEVER THE INPUT: true; the input reads as it did. -/
def fnExactSplitSpec : ChangeSpec := { name := "fnExactSplit", fn := fun _ => fun
  | [d] => { results := [.lit (.bool true)], args := [d] }
  | _ => none }
def fnExactSplitRow : OpenClaim := { program := "ytggokppfhkebkaa", sum := "3268b76e677fe6d97bd90b654d8005d04dfefad674b5dfaf9bb5f555b275d920", func := "loop.example/g00016/laws.FnExactSplit", spec := "fnExactSplit", plainKeys := false, apart := false }
def FnExactSplitSaid : Prop := fnExactSplitRow.holds Try.pinned (OpenSpec.ofChange fnExactSplitSpec)

/-- ITS FALSE NEIGHBOUR: 'it returns false'. Refute it at one input. -/
def fnExactSplitWrong : ChangeSpec := { name := "fnExactSplit", fn := fun _ => fun
  | [d] => { results := [.lit (.bool false)], args := [d] }
  | _ => none }
def FnExactSplitWrongFalsely : Prop := fnExactSplitRow.holds Try.pinned (OpenSpec.ofChange fnExactSplitWrong)

/-- 'laws.FnExactOddsUnpack': WHATEVER THE INPUT: true; the input reads as it did. -/
def fnExactOddsUnpackSpec : ChangeSpec := { name := "fnExactOddsUnpack", fn := fun _ => fun
  | [d1, d2, d3] => { results := [.lit (.bool true)], args := [d1, d2, d3] }
  | _ => none }
def fnExactOddsUnpackRow : OpenClaim := { program := "ytggokppfhkebkaa", sum := "3268b76e677fe6d97bd90b654d8005d04dfefad674b5dfaf9bb5f555b275d920", func := "loop.example/g00016/laws.FnExactOddsUnpack", spec := "fnExactOddsUnpack", plainKeys := false, apart := false }
def FnExactOddsUnpackSaid : Prop := fnExactOddsUnpackRow.holds Try.pinned (OpenSpec.ofChange fnExactOddsUnpackSpec)

/-- ITS FALSE NEIGHBOUR: 'it returns false'. Refute it at one input. -/
def fnExactOddsUnpackWrong : ChangeSpec := { name := "fnExactOddsUnpack", fn := fun _ => fun
  | [d1, d2, d3] => { results := [.lit (.bool false)], args := [d1, d2, d3] }
  | _ => none }
def FnExactOddsUnpackWrongFalsely : Prop := fnExactOddsUnpackRow.holds Try.pinned (OpenSpec.ofChange fnExactOddsUnpackWrong)

/-- 'laws.FnExactWordsPack': WHATEVER THE INPUT: true; the input reads as it did. -/
def fnExactWordsPackSpec : ChangeSpec := { name := "fnExactWordsPack", fn := fun _ => fun
  | [d1, d2] => { results := [.lit (.bool true)], args := [d1, d2] }
  | _ => none }
def fnExactWordsPackRow : OpenClaim := { program := "ytggokppfhkebkaa", sum := "3268b76e677fe6d97bd90b654d8005d04dfefad674b5dfaf9bb5f555b275d920", func := "loop.example/g00016/laws.FnExactWordsPack", spec := "fnExactWordsPack", plainKeys := false, apart := false }
def FnExactWordsPackSaid : Prop := fnExactWordsPackRow.holds Try.pinned (OpenSpec.ofChange fnExactWordsPackSpec)

/-- ITS FALSE NEIGHBOUR: 'it returns false'. Refute it at one input. -/
def fnExactWordsPackWrong : ChangeSpec := { name := "fnExactWordsPack", fn := fun _ => fun
  | [d1, d2] => { results := [.lit (.bool false)], args := [d1, d2] }
  | _ => none }
def FnExactWordsPackWrongFalsely : Prop := fnExactWordsPackRow.holds Try.pinned (OpenSpec.ofChange fnExactWordsPackWrong)

/- THE SECOND FORM. 'bulk': how many values and letters a reading holds, each counted each time it is reached (what is shared counts as often as it is met; a slice's spare places count too). A statement '..UptoSaid' is the law's where the arguments, and the package variables that the reading takes, are together of bulk at most 1048576: NARROWER than '..Said'. Prove '..Said' where nothing that the law and all that it calls make is longer than what came in: it says more and counts as full. Else prove '..UptoSaid'. A law counts once. -/
mutual
def uptoBulk {H : Type} : DataW H → Nat
  | .lit (.string bytes) => bytes.length + 1
  | .lit _ => 1
  | .nil => 1
  | .ptr d => uptoBulk d + 1
  | .slice elems spare => uptoBulkAll elems + uptoBulkAll spare + 1
  | .agg parts => uptoBulkAll parts + 1
  | .iface _ d => uptoBulk d + 1
  | .map entries => uptoBulkEntries entries + 1
  | .held _ => 1
def uptoBulkAll {H : Type} : List (DataW H) → Nat
  | [] => 0
  | d :: r => uptoBulk d + uptoBulkAll r
def uptoBulkEntries {H : Type} : List (Lit × DataW H) → Nat
  | [] => 0
  | x :: r => uptoBulkEntry x + uptoBulkEntries r
def uptoBulkEntry {H : Type} : Lit × DataW H → Nat
  | (.string bytes, d) => bytes.length + uptoBulk d + 1
  | (_, d) => uptoBulk d + 1
 end
def uptoSmall : (H : Type) → List (DataW H) → Bool := fun _ ds => decide (uptoBulkAll ds ≤ 1048576)
def OpenSpec.upto (s : _root_.Go.ChangeSpec) : _root_.Go.OpenSpec := { _root_.Go.OpenSpec.ofChange s with cond := some uptoSmall }

/-- 'laws.FnExactWriteSymbols', WHERE WHAT IT READS IS OF BULK AT MOST 1048576: true; the input reads as it did. -/
def fnExactWriteSymbolsUptoRow : OpenClaim := { program := "ytggokppfhkebkaa", sum := "3268b76e677fe6d97bd90b654d8005d04dfefad674b5dfaf9bb5f555b275d920", func := "loop.example/g00016/laws.FnExactWriteSymbols", spec := "fnExactWriteSymbols", plainKeys := false, apart := false, narrowed := true }
def FnExactWriteSymbolsUptoSaid : Prop := fnExactWriteSymbolsUptoRow.holds Try.pinned (OpenSpec.upto fnExactWriteSymbolsSpec)

/-- 'laws.FnPasses', WHERE WHAT IT READS IS OF BULK AT MOST 1048576: true; the input reads as it did. -/
def fnPassesUptoRow : OpenClaim := { program := "ytggokppfhkebkaa", sum := "3268b76e677fe6d97bd90b654d8005d04dfefad674b5dfaf9bb5f555b275d920", func := "loop.example/g00016/laws.FnPasses", spec := "fnPasses", plainKeys := false, apart := false, narrowed := true }
def FnPassesUptoSaid : Prop := fnPassesUptoRow.holds Try.pinned (OpenSpec.upto fnPassesSpec)

/-- 'laws.FnExactOddsPack', WHERE WHAT IT READS IS OF BULK AT MOST 1048576: true; the input reads as it did. -/
def fnExactOddsPackUptoRow : OpenClaim := { program := "ytggokppfhkebkaa", sum := "3268b76e677fe6d97bd90b654d8005d04dfefad674b5dfaf9bb5f555b275d920", func := "loop.example/g00016/laws.FnExactOddsPack", spec := "fnExactOddsPack", unfollowed := true, recurses := true, plainKeys := false, apart := false, narrowed := true }
def FnExactOddsPackUptoSaid : Prop := fnExactOddsPackUptoRow.holds Try.pinned (OpenSpec.upto fnExactOddsPackSpec)

/-- 'laws.FnCoarse', WHERE WHAT IT READS IS OF BULK AT MOST 1048576: true; the input reads as it did. -/
def fnCoarseUptoRow : OpenClaim := { program := "ytggokppfhkebkaa", sum := "3268b76e677fe6d97bd90b654d8005d04dfefad674b5dfaf9bb5f555b275d920", func := "loop.example/g00016/laws.FnCoarse", spec := "fnCoarse", plainKeys := false, apart := false, narrowed := true }
def FnCoarseUptoSaid : Prop := fnCoarseUptoRow.holds Try.pinned (OpenSpec.upto fnCoarseSpec)

/-- 'laws.FnExactGoodMoving', WHERE WHAT IT READS IS OF BULK AT MOST 1048576: true; the input reads as it did. -/
def fnExactGoodMovingUptoRow : OpenClaim := { program := "ytggokppfhkebkaa", sum := "3268b76e677fe6d97bd90b654d8005d04dfefad674b5dfaf9bb5f555b275d920", func := "loop.example/g00016/laws.FnExactGoodMoving", spec := "fnExactGoodMoving", plainKeys := false, apart := false, narrowed := true }
def FnExactGoodMovingUptoSaid : Prop := fnExactGoodMovingUptoRow.holds Try.pinned (OpenSpec.upto fnExactGoodMovingSpec)

/-- 'laws.FnSmooth', WHERE WHAT IT READS IS OF BULK AT MOST 1048576: true; the input reads as it did. -/
def fnSmoothUptoRow : OpenClaim := { program := "ytggokppfhkebkaa", sum := "3268b76e677fe6d97bd90b654d8005d04dfefad674b5dfaf9bb5f555b275d920", func := "loop.example/g00016/laws.FnSmooth", spec := "fnSmooth", unfollowed := true, recurses := true, plainKeys := false, apart := false, narrowed := true }
def FnSmoothUptoSaid : Prop := fnSmoothUptoRow.holds Try.pinned (OpenSpec.upto fnSmoothSpec)

/-- 'laws.FnResidue', WHERE WHAT IT READS IS OF BULK AT MOST 1048576: true; the input reads as it did. -/
def fnResidueUptoRow : OpenClaim := { program := "ytggokppfhkebkaa", sum := "3268b76e677fe6d97bd90b654d8005d04dfefad674b5dfaf9bb5f555b275d920", func := "loop.example/g00016/laws.FnResidue", spec := "fnResidue", plainKeys := false, apart := false, narrowed := true }
def FnResidueUptoSaid : Prop := fnResidueUptoRow.holds Try.pinned (OpenSpec.upto fnResidueSpec)

/-- 'laws.FnExactSplit', WHERE WHAT IT READS IS OF BULK AT MOST 1048576: true; the input reads as it did. -/
def fnExactSplitUptoRow : OpenClaim := { program := "ytggokppfhkebkaa", sum := "3268b76e677fe6d97bd90b654d8005d04dfefad674b5dfaf9bb5f555b275d920", func := "loop.example/g00016/laws.FnExactSplit", spec := "fnExactSplit", plainKeys := false, apart := false, narrowed := true }
def FnExactSplitUptoSaid : Prop := fnExactSplitUptoRow.holds Try.pinned (OpenSpec.upto fnExactSplitSpec)

/-- 'laws.FnExactOddsUnpack', WHERE WHAT IT READS IS OF BULK AT MOST 1048576: true; the input reads as it did. -/
def fnExactOddsUnpackUptoRow : OpenClaim := { program := "ytggokppfhkebkaa", sum := "3268b76e677fe6d97bd90b654d8005d04dfefad674b5dfaf9bb5f555b275d920", func := "loop.example/g00016/laws.FnExactOddsUnpack", spec := "fnExactOddsUnpack", plainKeys := false, apart := false, narrowed := true }
def FnExactOddsUnpackUptoSaid : Prop := fnExactOddsUnpackUptoRow.holds Try.pinned (OpenSpec.upto fnExactOddsUnpackSpec)

/-- 'laws.FnExactWordsPack', WHERE WHAT IT READS IS OF BULK AT MOST 1048576: true; the input reads as it did. -/
def fnExactWordsPackUptoRow : OpenClaim := { program := "ytggokppfhkebkaa", sum := "3268b76e677fe6d97bd90b654d8005d04dfefad674b5dfaf9bb5f555b275d920", func := "loop.example/g00016/laws.FnExactWordsPack", spec := "fnExactWordsPack", plainKeys := false, apart := false, narrowed := true }
def FnExactWordsPackUptoSaid : Prop := fnExactWordsPackUptoRow.holds Try.pinned (OpenSpec.upto fnExactWordsPackSpec)

end Rows
end Go.Proofs.Ytggokppfhkebkaa
