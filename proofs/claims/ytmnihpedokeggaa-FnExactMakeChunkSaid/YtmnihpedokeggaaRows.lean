/-
  No cell of these rows narrows 'for every input' (looked for: loops, veiled, ifaces, maps, wideKeys, modest, calm, conditions, laid).
  DERIVED. THE GIVEN ROWS OF THIS SEAT. 10 by the template 'for every input the law returns true; each argument reads behind the call as it read before'; 0 by the template 'total and deterministic' (their statements: YtmnihpedokeggaaTotals.lean).
  GIVEN WITH THE SEED: the statements are not yours to turn. If you find one false, say at which input.
  Laid BY PROGRAM, IN A SANDBOX (cutbox-rows.mjs): the forced cells as the released guide's own fill.sh prints them over the translation 00000dcf4b91db90… (all of the seat's roots in one cut). By AI agents, Wed Nov 11 2026. No macro, syntax, notation, axiom, sorry.
-/
import Derived.Test.YtmnihpedokeggaaChecked
import GoSem.Claim
import GoSem.ClaimJoined
import GoSem.ClaimMapViews
import Derived.JoinedTies
import Derived.KernelRfl
namespace Go.Proofs.Ytmnihpedokeggaa
/- THE CELL 'sum', in the pinned program and in every row, IS THE sha256 OF THE DUMP (.gsa) THAT YtmnihpedokeggaaProg.lean LOADS. Nothing in Lean hashes anything: it is a label: what it is worth is what the hold of that sum in a sandbox is worth. -/
noncomputable def Try.pinned : Pinned := { name := "ytmnihpedokeggaa", sum := "00000dcf4b91db90f205e125e949242c82b595860c475ef831116067504abe9a", checked := Try.checked }
namespace Rows
def none {H : Type} : Left H := { results := [], args := [] }

/-- 'laws.FnExactOddsCost': WHATEVER THE INPUT: true; the input reads as it did. -/
def fnExactOddsCostSpec : ChangeSpec := { name := "fnExactOddsCost", fn := fun _ => fun
  | [d1, d2] => { results := [.lit (.bool true)], args := [d1, d2] }
  | _ => none }
def fnExactOddsCostRow : OpenClaim := { program := "ytmnihpedokeggaa", sum := "00000dcf4b91db90f205e125e949242c82b595860c475ef831116067504abe9a", func := "loop.example/g00016/laws.FnExactOddsCost", spec := "fnExactOddsCost", apart := false }
def FnExactOddsCostSaid : Prop := fnExactOddsCostRow.holds Try.pinned (OpenSpec.ofChange fnExactOddsCostSpec)

/-- ITS FALSE NEIGHBOUR: 'it returns false'. Refute it at one input. -/
def fnExactOddsCostWrong : ChangeSpec := { name := "fnExactOddsCost", fn := fun _ => fun
  | [d1, d2] => { results := [.lit (.bool false)], args := [d1, d2] }
  | _ => none }
def FnExactOddsCostWrongFalsely : Prop := fnExactOddsCostRow.holds Try.pinned (OpenSpec.ofChange fnExactOddsCostWrong)

/-- 'laws.FnExactMakeChunk': WHATEVER THE INPUT: true; the input reads as it did. -/
def fnExactMakeChunkSpec : ChangeSpec := { name := "fnExactMakeChunk", fn := fun _ => fun
  | [d] => { results := [.lit (.bool true)], args := [d] }
  | _ => none }
def fnExactMakeChunkRow : OpenClaim := { program := "ytmnihpedokeggaa", sum := "00000dcf4b91db90f205e125e949242c82b595860c475ef831116067504abe9a", func := "loop.example/g00016/laws.FnExactMakeChunk", spec := "fnExactMakeChunk", apart := false }
def FnExactMakeChunkSaid : Prop := fnExactMakeChunkRow.holds Try.pinned (OpenSpec.ofChange fnExactMakeChunkSpec)

/-- ITS FALSE NEIGHBOUR: 'it returns false'. Refute it at one input. -/
def fnExactMakeChunkWrong : ChangeSpec := { name := "fnExactMakeChunk", fn := fun _ => fun
  | [d] => { results := [.lit (.bool false)], args := [d] }
  | _ => none }
def FnExactMakeChunkWrongFalsely : Prop := fnExactMakeChunkRow.holds Try.pinned (OpenSpec.ofChange fnExactMakeChunkWrong)

/-- 'laws.FnExactGuess': WHATEVER THE INPUT: true; the input reads as it did. -/
def fnExactGuessSpec : ChangeSpec := { name := "fnExactGuess", fn := fun _ => fun
  | [d1, d2, d3, d4, d5] => { results := [.lit (.bool true)], args := [d1, d2, d3, d4, d5] }
  | _ => none }
def fnExactGuessRow : OpenClaim := { program := "ytmnihpedokeggaa", sum := "00000dcf4b91db90f205e125e949242c82b595860c475ef831116067504abe9a", func := "loop.example/g00016/laws.FnExactGuess", spec := "fnExactGuess", unfollowed := true, recurses := true, apart := false }
def FnExactGuessSaid : Prop := fnExactGuessRow.holds Try.pinned (OpenSpec.ofChange fnExactGuessSpec)

/-- ITS FALSE NEIGHBOUR: 'it returns false'. Refute it at one input. -/
def fnExactGuessWrong : ChangeSpec := { name := "fnExactGuess", fn := fun _ => fun
  | [d1, d2, d3, d4, d5] => { results := [.lit (.bool false)], args := [d1, d2, d3, d4, d5] }
  | _ => none }
def FnExactGuessWrongFalsely : Prop := fnExactGuessRow.holds Try.pinned (OpenSpec.ofChange fnExactGuessWrong)

/-- 'laws.FnExactShrink': WHATEVER THE INPUT: true; the input reads as it did. -/
def fnExactShrinkSpec : ChangeSpec := { name := "fnExactShrink", fn := fun _ => fun
  | [d1, d2] => { results := [.lit (.bool true)], args := [d1, d2] }
  | _ => none }
def fnExactShrinkRow : OpenClaim := { program := "ytmnihpedokeggaa", sum := "00000dcf4b91db90f205e125e949242c82b595860c475ef831116067504abe9a", func := "loop.example/g00016/laws.FnExactShrink", spec := "fnExactShrink", apart := false }
def FnExactShrinkSaid : Prop := fnExactShrinkRow.holds Try.pinned (OpenSpec.ofChange fnExactShrinkSpec)

/-- ITS FALSE NEIGHBOUR: 'it returns false'. Refute it at one input. -/
def fnExactShrinkWrong : ChangeSpec := { name := "fnExactShrink", fn := fun _ => fun
  | [d1, d2] => { results := [.lit (.bool false)], args := [d1, d2] }
  | _ => none }
def FnExactShrinkWrongFalsely : Prop := fnExactShrinkRow.holds Try.pinned (OpenSpec.ofChange fnExactShrinkWrong)

/-- 'laws.FnExactGrow': WHATEVER THE INPUT: true; the input reads as it did. -/
def fnExactGrowSpec : ChangeSpec := { name := "fnExactGrow", fn := fun _ => fun
  | [d1, d2, d3] => { results := [.lit (.bool true)], args := [d1, d2, d3] }
  | _ => none }
def fnExactGrowRow : OpenClaim := { program := "ytmnihpedokeggaa", sum := "00000dcf4b91db90f205e125e949242c82b595860c475ef831116067504abe9a", func := "loop.example/g00016/laws.FnExactGrow", spec := "fnExactGrow", unfollowed := true, recurses := true, apart := false }
def FnExactGrowSaid : Prop := fnExactGrowRow.holds Try.pinned (OpenSpec.ofChange fnExactGrowSpec)

/-- ITS FALSE NEIGHBOUR: 'it returns false'. Refute it at one input. -/
def fnExactGrowWrong : ChangeSpec := { name := "fnExactGrow", fn := fun _ => fun
  | [d1, d2, d3] => { results := [.lit (.bool false)], args := [d1, d2, d3] }
  | _ => none }
def FnExactGrowWrongFalsely : Prop := fnExactGrowRow.holds Try.pinned (OpenSpec.ofChange fnExactGrowWrong)

/-- 'laws.FnExactResize': WHATEVER THE INPUT: true; the input reads as it did. -/
def fnExactResizeSpec : ChangeSpec := { name := "fnExactResize", fn := fun _ => fun
  | [d1, d2, d3] => { results := [.lit (.bool true)], args := [d1, d2, d3] }
  | _ => none }
def fnExactResizeRow : OpenClaim := { program := "ytmnihpedokeggaa", sum := "00000dcf4b91db90f205e125e949242c82b595860c475ef831116067504abe9a", func := "loop.example/g00016/laws.FnExactResize", spec := "fnExactResize", unfollowed := true, recurses := true, apart := false }
def FnExactResizeSaid : Prop := fnExactResizeRow.holds Try.pinned (OpenSpec.ofChange fnExactResizeSpec)

/-- ITS FALSE NEIGHBOUR: 'it returns false'. Refute it at one input. -/
def fnExactResizeWrong : ChangeSpec := { name := "fnExactResize", fn := fun _ => fun
  | [d1, d2, d3] => { results := [.lit (.bool false)], args := [d1, d2, d3] }
  | _ => none }
def FnExactResizeWrongFalsely : Prop := fnExactResizeRow.holds Try.pinned (OpenSpec.ofChange fnExactResizeWrong)

/-- 'laws.FnExactBestKind': WHATEVER THE INPUT: true; the input reads as it did. -/
def fnExactBestKindSpec : ChangeSpec := { name := "fnExactBestKind", fn := fun _ => fun
  | [d1, d2, d3] => { results := [.lit (.bool true)], args := [d1, d2, d3] }
  | _ => none }
def fnExactBestKindRow : OpenClaim := { program := "ytmnihpedokeggaa", sum := "00000dcf4b91db90f205e125e949242c82b595860c475ef831116067504abe9a", func := "loop.example/g00016/laws.FnExactBestKind", spec := "fnExactBestKind", apart := false }
def FnExactBestKindSaid : Prop := fnExactBestKindRow.holds Try.pinned (OpenSpec.ofChange fnExactBestKindSpec)

/-- ITS FALSE NEIGHBOUR: 'it returns false'. Refute it at one input. -/
def fnExactBestKindWrong : ChangeSpec := { name := "fnExactBestKind", fn := fun _ => fun
  | [d1, d2, d3] => { results := [.lit (.bool false)], args := [d1, d2, d3] }
  | _ => none }
def FnExactBestKindWrongFalsely : Prop := fnExactBestKindRow.holds Try.pinned (OpenSpec.ofChange fnExactBestKindWrong)

/-- 'laws.FnExactPackHigh': WHATEVER THE INPUT: true; the input reads as it did. -/
def fnExactPackHighSpec : ChangeSpec := { name := "fnExactPackHigh", fn := fun _ => fun
  | [d] => { results := [.lit (.bool true)], args := [d] }
  | _ => none }
def fnExactPackHighRow : OpenClaim := { program := "ytmnihpedokeggaa", sum := "00000dcf4b91db90f205e125e949242c82b595860c475ef831116067504abe9a", func := "loop.example/g00016/laws.FnExactPackHigh", spec := "fnExactPackHigh", apart := false }
def FnExactPackHighSaid : Prop := fnExactPackHighRow.holds Try.pinned (OpenSpec.ofChange fnExactPackHighSpec)

/-- ITS FALSE NEIGHBOUR: 'it returns false'. Refute it at one input. -/
def fnExactPackHighWrong : ChangeSpec := { name := "fnExactPackHigh", fn := fun _ => fun
  | [d] => { results := [.lit (.bool false)], args := [d] }
  | _ => none }
def FnExactPackHighWrongFalsely : Prop := fnExactPackHighRow.holds Try.pinned (OpenSpec.ofChange fnExactPackHighWrong)

/-- 'laws.FnExactPackLow': WHATEVER THE INPUT: true; the input reads as it did. -/
def fnExactPackLowSpec : ChangeSpec := { name := "fnExactPackLow", fn := fun _ => fun
  | [d] => { results := [.lit (.bool true)], args := [d] }
  | _ => none }
def fnExactPackLowRow : OpenClaim := { program := "ytmnihpedokeggaa", sum := "00000dcf4b91db90f205e125e949242c82b595860c475ef831116067504abe9a", func := "loop.example/g00016/laws.FnExactPackLow", spec := "fnExactPackLow", apart := false }
def FnExactPackLowSaid : Prop := fnExactPackLowRow.holds Try.pinned (OpenSpec.ofChange fnExactPackLowSpec)

/-- ITS FALSE NEIGHBOUR: 'it returns false'. Refute it at one input. -/
def fnExactPackLowWrong : ChangeSpec := { name := "fnExactPackLow", fn := fun _ => fun
  | [d] => { results := [.lit (.bool false)], args := [d] }
  | _ => none }
def FnExactPackLowWrongFalsely : Prop := fnExactPackLowRow.holds Try.pinned (OpenSpec.ofChange fnExactPackLowWrong)

/-- 'laws.FnExactGoodBox': WHATEVER THE INPUT: true; the input reads as it did. -/
def fnExactGoodBoxSpec : ChangeSpec := { name := "fnExactGoodBox", fn := fun _ => fun
  | [d] => { results := [.lit (.bool true)], args := [d] }
  | _ => none }
def fnExactGoodBoxRow : OpenClaim := { program := "ytmnihpedokeggaa", sum := "00000dcf4b91db90f205e125e949242c82b595860c475ef831116067504abe9a", func := "loop.example/g00016/laws.FnExactGoodBox", spec := "fnExactGoodBox", apart := false }
def FnExactGoodBoxSaid : Prop := fnExactGoodBoxRow.holds Try.pinned (OpenSpec.ofChange fnExactGoodBoxSpec)

/-- ITS FALSE NEIGHBOUR: 'it returns false'. Refute it at one input. -/
def fnExactGoodBoxWrong : ChangeSpec := { name := "fnExactGoodBox", fn := fun _ => fun
  | [d] => { results := [.lit (.bool false)], args := [d] }
  | _ => none }
def FnExactGoodBoxWrongFalsely : Prop := fnExactGoodBoxRow.holds Try.pinned (OpenSpec.ofChange fnExactGoodBoxWrong)

/- THE SECOND FORM. 'bulk': how many values and letters a reading holds, each counted each time it is reached (what is shared counts as often as it is met; a slice's spare places count too). A statement '..UptoSaid' is the law's where the arguments, and the package variables that the reading takes, are together of bulk at most 1048576: NARROWER than '..Said'. Prove '..Said' where nothing that the law and all that it calls make is longer than what came in: it says more and counts as full. Else prove '..UptoSaid'. A law counts once. -/
mutual
def uptoBulk {H : Type} : DataW H → Nat
  | .lit (.string bytes) => bytes.length + 1
  | .lit _ => 1
  | .nil => 1
  | .ptr d => uptoBulk d + 1
  | .slice elems spare => uptoBulkAll elems + uptoBulkAll spare + 1
  | .agg parts => uptoBulkAll parts + 1
  | .iface _ d => uptoBulk d + 1
  | .map entries => uptoBulkEntries entries + 1
  | .held _ => 1
def uptoBulkAll {H : Type} : List (DataW H) → Nat
  | [] => 0
  | d :: r => uptoBulk d + uptoBulkAll r
def uptoBulkEntries {H : Type} : List (Lit × DataW H) → Nat
  | [] => 0
  | x :: r => uptoBulkEntry x + uptoBulkEntries r
def uptoBulkEntry {H : Type} : Lit × DataW H → Nat
  | (.string bytes, d) => bytes.length + uptoBulk d + 1
  | (_, d) => uptoBulk d + 1
 end
def uptoSmall : (H : Type) → List (DataW H) → Bool := fun _ ds => decide (uptoBulkAll ds ≤ 1048576)
def OpenSpec.upto (s : _root_.Go.ChangeSpec) : _root_.Go.OpenSpec := { _root_.Go.OpenSpec.ofChange s with cond := some uptoSmall }

/-- 'laws.FnExactOddsCost', WHERE WHAT IT READS IS OF BULK AT MOST 1048576: true; the input reads as it did. -/
def fnExactOddsCostUptoRow : OpenClaim := { program := "ytmnihpedokeggaa", sum := "00000dcf4b91db90f205e125e949242c82b595860c475ef831116067504abe9a", func := "loop.example/g00016/laws.FnExactOddsCost", spec := "fnExactOddsCost", apart := false, narrowed := true }
def FnExactOddsCostUptoSaid : Prop := fnExactOddsCostUptoRow.holds Try.pinned (OpenSpec.upto fnExactOddsCostSpec)

/-- 'laws.FnExactMakeChunk', WHERE WHAT IT READS IS OF BULK AT MOST 1048576: true; the input reads as it did. -/
def fnExactMakeChunkUptoRow : OpenClaim := { program := "ytmnihpedokeggaa", sum := "00000dcf4b91db90f205e125e949242c82b595860c475ef831116067504abe9a", func := "loop.example/g00016/laws.FnExactMakeChunk", spec := "fnExactMakeChunk", apart := false, narrowed := true }
def FnExactMakeChunkUptoSaid : Prop := fnExactMakeChunkUptoRow.holds Try.pinned (OpenSpec.upto fnExactMakeChunkSpec)

/-- 'laws.FnExactGuess', WHERE WHAT IT READS IS OF BULK AT MOST 1048576: true; the input reads as it did. -/
def fnExactGuessUptoRow : OpenClaim := { program := "ytmnihpedokeggaa", sum := "00000dcf4b91db90f205e125e949242c82b595860c475ef831116067504abe9a", func := "loop.example/g00016/laws.FnExactGuess", spec := "fnExactGuess", unfollowed := true, recurses := true, apart := false, narrowed := true }
def FnExactGuessUptoSaid : Prop := fnExactGuessUptoRow.holds Try.pinned (OpenSpec.upto fnExactGuessSpec)

/-- 'laws.FnExactShrink', WHERE WHAT IT READS IS OF BULK AT MOST 1048576: true; the input reads as it did. -/
def fnExactShrinkUptoRow : OpenClaim := { program := "ytmnihpedokeggaa", sum := "00000dcf4b91db90f205e125e949242c82b595860c475ef831116067504abe9a", func := "loop.example/g00016/laws.FnExactShrink", spec := "fnExactShrink", apart := false, narrowed := true }
def FnExactShrinkUptoSaid : Prop := fnExactShrinkUptoRow.holds Try.pinned (OpenSpec.upto fnExactShrinkSpec)

/-- 'laws.FnExactGrow', WHERE WHAT IT READS IS OF BULK AT MOST 1048576: true; the input reads as it did. -/
def fnExactGrowUptoRow : OpenClaim := { program := "ytmnihpedokeggaa", sum := "00000dcf4b91db90f205e125e949242c82b595860c475ef831116067504abe9a", func := "loop.example/g00016/laws.FnExactGrow", spec := "fnExactGrow", unfollowed := true, recurses := true, apart := false, narrowed := true }
def FnExactGrowUptoSaid : Prop := fnExactGrowUptoRow.holds Try.pinned (OpenSpec.upto fnExactGrowSpec)

/-- 'laws.FnExactResize', WHERE WHAT IT READS IS OF BULK AT MOST 1048576: true; the input reads as it did. -/
def fnExactResizeUptoRow : OpenClaim := { program := "ytmnihpedokeggaa", sum := "00000dcf4b91db90f205e125e949242c82b595860c475ef831116067504abe9a", func := "loop.example/g00016/laws.FnExactResize", spec := "fnExactResize", unfollowed := true, recurses := true, apart := false, narrowed := true }
def FnExactResizeUptoSaid : Prop := fnExactResizeUptoRow.holds Try.pinned (OpenSpec.upto fnExactResizeSpec)

/-- 'laws.FnExactBestKind', WHERE WHAT IT READS IS OF BULK AT MOST 1048576: true; the input reads as it did. -/
def fnExactBestKindUptoRow : OpenClaim := { program := "ytmnihpedokeggaa", sum := "00000dcf4b91db90f205e125e949242c82b595860c475ef831116067504abe9a", func := "loop.example/g00016/laws.FnExactBestKind", spec := "fnExactBestKind", apart := false, narrowed := true }
def FnExactBestKindUptoSaid : Prop := fnExactBestKindUptoRow.holds Try.pinned (OpenSpec.upto fnExactBestKindSpec)

/-- 'laws.FnExactPackHigh', WHERE WHAT IT READS IS OF BULK AT MOST 1048576: true; the input reads as it did. -/
def fnExactPackHighUptoRow : OpenClaim := { program := "ytmnihpedokeggaa", sum := "00000dcf4b91db90f205e125e949242c82b595860c475ef831116067504abe9a", func := "loop.example/g00016/laws.FnExactPackHigh", spec := "fnExactPackHigh", apart := false, narrowed := true }
def FnExactPackHighUptoSaid : Prop := fnExactPackHighUptoRow.holds Try.pinned (OpenSpec.upto fnExactPackHighSpec)

/-- 'laws.FnExactPackLow', WHERE WHAT IT READS IS OF BULK AT MOST 1048576: true; the input reads as it did. -/
def fnExactPackLowUptoRow : OpenClaim := { program := "ytmnihpedokeggaa", sum := "00000dcf4b91db90f205e125e949242c82b595860c475ef831116067504abe9a", func := "loop.example/g00016/laws.FnExactPackLow", spec := "fnExactPackLow", apart := false, narrowed := true }
def FnExactPackLowUptoSaid : Prop := fnExactPackLowUptoRow.holds Try.pinned (OpenSpec.upto fnExactPackLowSpec)

/-- 'laws.FnExactGoodBox', WHERE WHAT IT READS IS OF BULK AT MOST 1048576: true; the input reads as it did. -/
def fnExactGoodBoxUptoRow : OpenClaim := { program := "ytmnihpedokeggaa", sum := "00000dcf4b91db90f205e125e949242c82b595860c475ef831116067504abe9a", func := "loop.example/g00016/laws.FnExactGoodBox", spec := "fnExactGoodBox", apart := false, narrowed := true }
def FnExactGoodBoxUptoSaid : Prop := fnExactGoodBoxUptoRow.holds Try.pinned (OpenSpec.upto fnExactGoodBoxSpec)

end Rows
end Go.Proofs.Ytmnihpedokeggaa
