/-
  No cell of these rows narrows 'for every input' (looked for: loops, veiled, ifaces, maps, wideKeys, modest, calm, conditions, laid).
  DERIVED. THE GIVEN ROWS OF THIS SEAT. 10 by the template 'for every input the law returns true; each argument reads behind the call as it read before'; 0 by the template 'total and deterministic' (their statements: YtidblealnaicpaaTotals.lean).
  GIVEN WITH THE SEED: the statements are not yours to turn. If you find one false, say at which input.
  Laid BY PROGRAM, IN A SANDBOX (cutbox-rows.mjs): the forced cells as the released guide's own fill.sh prints them over the translation b4c75e6f7084c346… (all of the seat's roots in one cut). By AI agents, Wed Nov 11 2026. No macro, syntax, notation, axiom, sorry.
-/
import Derived.Test.YtidblealnaicpaaChecked
import GoSem.Claim
import GoSem.ClaimJoined
import GoSem.ClaimMapViews
import Derived.JoinedTies
import Derived.KernelRfl
namespace Go.Proofs.Ytidblealnaicpaa
/- THE CELL 'sum', in the pinned program and in every row, IS THE sha256 OF THE DUMP (.gsa) THAT YtidblealnaicpaaProg.lean LOADS. Nothing in Lean hashes anything: it is a label: what it is worth is what the hold of that sum in a sandbox is worth. -/
noncomputable def Try.pinned : Pinned := { name := "ytidblealnaicpaa", sum := "b4c75e6f7084c346e5ab1c18b1fb4dfc5da34739ed458369fdc322123a61e8c1", checked := Try.checked }
namespace Rows
def none {H : Type} : Left H := { results := [], args := [] }

/-- 'laws.FnExactBestPlan': WHATEVER THE INPUT: true; the input reads as it did. -/
def fnExactBestPlanSpec : ChangeSpec := { name := "fnExactBestPlan", fn := fun _ => fun
  | [d] => { results := [.lit (.bool true)], args := [d] }
  | _ => none }
def fnExactBestPlanRow : OpenClaim := { program := "ytidblealnaicpaa", sum := "b4c75e6f7084c346e5ab1c18b1fb4dfc5da34739ed458369fdc322123a61e8c1", func := "loop.example/g00016/laws.FnExactBestPlan", spec := "fnExactBestPlan", plainKeys := false, apart := false }
def FnExactBestPlanSaid : Prop := fnExactBestPlanRow.holds Try.pinned (OpenSpec.ofChange fnExactBestPlanSpec)

/-- ITS FALSE NEIGHBOUR: 'it returns false'. Refute it at one input. -/
def fnExactBestPlanWrong : ChangeSpec := { name := "fnExactBestPlan", fn := fun _ => fun
  | [d] => { results := [.lit (.bool false)], args := [d] }
  | _ => none }
def FnExactBestPlanWrongFalsely : Prop := fnExactBestPlanRow.holds Try.pinned (OpenSpec.ofChange fnExactBestPlanWrong)

/-- 'laws.FnExactMerge': WHATEVER THE INPUT: true; the input reads as it did. -/
def fnExactMergeSpec : ChangeSpec := { name := "fnExactMerge", fn := fun _ => fun
  | [d1, d2, d3] => { results := [.lit (.bool true)], args := [d1, d2, d3] }
  | _ => none }
def fnExactMergeRow : OpenClaim := { program := "ytidblealnaicpaa", sum := "b4c75e6f7084c346e5ab1c18b1fb4dfc5da34739ed458369fdc322123a61e8c1", func := "loop.example/g00016/laws.FnExactMerge", spec := "fnExactMerge", plainKeys := false, apart := false }
def FnExactMergeSaid : Prop := fnExactMergeRow.holds Try.pinned (OpenSpec.ofChange fnExactMergeSpec)

/-- ITS FALSE NEIGHBOUR: 'it returns false'. Refute it at one input. -/
def fnExactMergeWrong : ChangeSpec := { name := "fnExactMerge", fn := fun _ => fun
  | [d1, d2, d3] => { results := [.lit (.bool false)], args := [d1, d2, d3] }
  | _ => none }
def FnExactMergeWrongFalsely : Prop := fnExactMergeRow.holds Try.pinned (OpenSpec.ofChange fnExactMergeWrong)

/-- 'laws.FnExactGoodCues': WHATEVER THE INPUT: true; the input reads as it did. -/
def fnExactGoodCuesSpec : ChangeSpec := { name := "fnExactGoodCues", fn := fun _ => fun
  | [d] => { results := [.lit (.bool true)], args := [d] }
  | _ => none }
def fnExactGoodCuesRow : OpenClaim := { program := "ytidblealnaicpaa", sum := "b4c75e6f7084c346e5ab1c18b1fb4dfc5da34739ed458369fdc322123a61e8c1", func := "loop.example/g00016/laws.FnExactGoodCues", spec := "fnExactGoodCues", inPlace := ["internal/bytealg.IndexByteString", "internal/bytealg.IndexString"], named := ["internal/bytealg.MaxLen"], plainKeys := false, apart := false }
def FnExactGoodCuesSaid : Prop := fnExactGoodCuesRow.holds Try.pinned (OpenSpec.ofChange fnExactGoodCuesSpec)

/-- ITS FALSE NEIGHBOUR: 'it returns false'. Refute it at one input. -/
def fnExactGoodCuesWrong : ChangeSpec := { name := "fnExactGoodCues", fn := fun _ => fun
  | [d] => { results := [.lit (.bool false)], args := [d] }
  | _ => none }
def FnExactGoodCuesWrongFalsely : Prop := fnExactGoodCuesRow.holds Try.pinned (OpenSpec.ofChange fnExactGoodCuesWrong)

/-- 'laws.FnExactWordsUnpack': WHATEVER THE INPUT: true; the input reads as it did. -/
def fnExactWordsUnpackSpec : ChangeSpec := { name := "fnExactWordsUnpack", fn := fun _ => fun
  | [d1, d2, d3] => { results := [.lit (.bool true)], args := [d1, d2, d3] }
  | _ => none }
def fnExactWordsUnpackRow : OpenClaim := { program := "ytidblealnaicpaa", sum := "b4c75e6f7084c346e5ab1c18b1fb4dfc5da34739ed458369fdc322123a61e8c1", func := "loop.example/g00016/laws.FnExactWordsUnpack", spec := "fnExactWordsUnpack", plainKeys := false, apart := false }
def FnExactWordsUnpackSaid : Prop := fnExactWordsUnpackRow.holds Try.pinned (OpenSpec.ofChange fnExactWordsUnpackSpec)

/-- ITS FALSE NEIGHBOUR: 'it returns false'. Refute it at one input. -/
def fnExactWordsUnpackWrong : ChangeSpec := { name := "fnExactWordsUnpack", fn := fun _ => fun
  | [d1, d2, d3] => { results := [.lit (.bool false)], args := [d1, d2, d3] }
  | _ => none }
def FnExactWordsUnpackWrongFalsely : Prop := fnExactWordsUnpackRow.holds Try.pinned (OpenSpec.ofChange fnExactWordsUnpackWrong)

/-- 'laws.FnFilters': WHATEVER THE INPUT: true; the input reads as it did. -/
def fnFiltersSpec : ChangeSpec := { name := "fnFilters", fn := fun _ => fun
  | [d] => { results := [.lit (.bool true)], args := [d] }
  | _ => none }
def fnFiltersRow : OpenClaim := { program := "ytidblealnaicpaa", sum := "b4c75e6f7084c346e5ab1c18b1fb4dfc5da34739ed458369fdc322123a61e8c1", func := "loop.example/g00016/laws.FnFilters", spec := "fnFilters", plainKeys := false, apart := false }
def FnFiltersSaid : Prop := fnFiltersRow.holds Try.pinned (OpenSpec.ofChange fnFiltersSpec)

/-- ITS FALSE NEIGHBOUR: 'it returns false'. Refute it at one input. -/
def fnFiltersWrong : ChangeSpec := { name := "fnFilters", fn := fun _ => fun
  | [d] => { results := [.lit (.bool false)], args := [d] }
  | _ => none }
def FnFiltersWrongFalsely : Prop := fnFiltersRow.holds Try.pinned (OpenSpec.ofChange fnFiltersWrong)

/-- 'laws.FnExactEarlier': WHATEVER THE INPUT: true; the input reads as it did. -/
def fnExactEarlierSpec : ChangeSpec := { name := "fnExactEarlier", fn := fun _ => fun
  | [d1, d2, d3] => { results := [.lit (.bool true)], args := [d1, d2, d3] }
  | _ => none }
def fnExactEarlierRow : OpenClaim := { program := "ytidblealnaicpaa", sum := "b4c75e6f7084c346e5ab1c18b1fb4dfc5da34739ed458369fdc322123a61e8c1", func := "loop.example/g00016/laws.FnExactEarlier", spec := "fnExactEarlier", plainKeys := false, apart := false }
def FnExactEarlierSaid : Prop := fnExactEarlierRow.holds Try.pinned (OpenSpec.ofChange fnExactEarlierSpec)

/-- ITS FALSE NEIGHBOUR: 'it returns false'. Refute it at one input. -/
def fnExactEarlierWrong : ChangeSpec := { name := "fnExactEarlier", fn := fun _ => fun
  | [d1, d2, d3] => { results := [.lit (.bool false)], args := [d1, d2, d3] }
  | _ => none }
def FnExactEarlierWrongFalsely : Prop := fnExactEarlierRow.holds Try.pinned (OpenSpec.ofChange fnExactEarlierWrong)

/-- 'laws.FnExactReadSymbols': WHATEVER THE INPUT: true; the input reads as it did. -/
def fnExactReadSymbolsSpec : ChangeSpec := { name := "fnExactReadSymbols", fn := fun _ => fun
  | [d1, d2, d3, d4] => { results := [.lit (.bool true)], args := [d1, d2, d3, d4] }
  | _ => none }
def fnExactReadSymbolsRow : OpenClaim := { program := "ytidblealnaicpaa", sum := "b4c75e6f7084c346e5ab1c18b1fb4dfc5da34739ed458369fdc322123a61e8c1", func := "loop.example/g00016/laws.FnExactReadSymbols", spec := "fnExactReadSymbols", unfollowed := true, recurses := true, plainKeys := false, apart := false }
def FnExactReadSymbolsSaid : Prop := fnExactReadSymbolsRow.holds Try.pinned (OpenSpec.ofChange fnExactReadSymbolsSpec)

/-- ITS FALSE NEIGHBOUR: 'it returns false'. Refute it at one input. -/
def fnExactReadSymbolsWrong : ChangeSpec := { name := "fnExactReadSymbols", fn := fun _ => fun
  | [d1, d2, d3, d4] => { results := [.lit (.bool false)], args := [d1, d2, d3, d4] }
  | _ => none }
def FnExactReadSymbolsWrongFalsely : Prop := fnExactReadSymbolsRow.holds Try.pinned (OpenSpec.ofChange fnExactReadSymbolsWrong)

/-- 'laws.FnSizes': WHATEVER THE INPUT: true; the input reads as it did. -/
def fnSizesSpec : ChangeSpec := { name := "fnSizes", fn := fun _ => fun
  | [d] => { results := [.lit (.bool true)], args := [d] }
  | _ => none }
def fnSizesRow : OpenClaim := { program := "ytidblealnaicpaa", sum := "b4c75e6f7084c346e5ab1c18b1fb4dfc5da34739ed458369fdc322123a61e8c1", func := "loop.example/g00016/laws.FnSizes", spec := "fnSizes", unfollowed := true, recurses := true, plainKeys := false, apart := false }
def FnSizesSaid : Prop := fnSizesRow.holds Try.pinned (OpenSpec.ofChange fnSizesSpec)

/-- ITS FALSE NEIGHBOUR: 'it returns false'. Refute it at one input. -/
def fnSizesWrong : ChangeSpec := { name := "fnSizes", fn := fun _ => fun
  | [d] => { results := [.lit (.bool false)], args := [d] }
  | _ => none }
def FnSizesWrongFalsely : Prop := fnSizesRow.holds Try.pinned (OpenSpec.ofChange fnSizesWrong)

/-- 'laws.FnExactReadParts': WHATEVER THE INPUT: true; the input reads as it did. -/
def fnExactReadPartsSpec : ChangeSpec := { name := "fnExactReadParts", fn := fun _ => fun
  | [d] => { results := [.lit (.bool true)], args := [d] }
  | _ => none }
def fnExactReadPartsRow : OpenClaim := { program := "ytidblealnaicpaa", sum := "b4c75e6f7084c346e5ab1c18b1fb4dfc5da34739ed458369fdc322123a61e8c1", func := "loop.example/g00016/laws.FnExactReadParts", spec := "fnExactReadParts", unfollowed := true, recurses := true, plainKeys := false, apart := false }
def FnExactReadPartsSaid : Prop := fnExactReadPartsRow.holds Try.pinned (OpenSpec.ofChange fnExactReadPartsSpec)

/-- ITS FALSE NEIGHBOUR: 'it returns false'. Refute it at one input. -/
def fnExactReadPartsWrong : ChangeSpec := { name := "fnExactReadParts", fn := fun _ => fun
  | [d] => { results := [.lit (.bool false)], args := [d] }
  | _ => none }
def FnExactReadPartsWrongFalsely : Prop := fnExactReadPartsRow.holds Try.pinned (OpenSpec.ofChange fnExactReadPartsWrong)

/-- 'laws.FnPlan': WHATEVER THE INPUT: true; the input reads as it did. -/
def fnPlanSpec : ChangeSpec := { name := "fnPlan", fn := fun _ => fun
  | [d1, d2] => { results := [.lit (.bool true)], args := [d1, d2] }
  | _ => none }
def fnPlanRow : OpenClaim := { program := "ytidblealnaicpaa", sum := "b4c75e6f7084c346e5ab1c18b1fb4dfc5da34739ed458369fdc322123a61e8c1", func := "loop.example/g00016/laws.FnPlan", spec := "fnPlan", plainKeys := false, apart := false }
def FnPlanSaid : Prop := fnPlanRow.holds Try.pinned (OpenSpec.ofChange fnPlanSpec)

/-- ITS FALSE NEIGHBOUR: 'it returns false'. Refute it at one input. -/
def fnPlanWrong : ChangeSpec := { name := "fnPlan", fn := fun _ => fun
  | [d1, d2] => { results := [.lit (.bool false)], args := [d1, d2] }
  | _ => none }
def FnPlanWrongFalsely : Prop := fnPlanRow.holds Try.pinned (OpenSpec.ofChange fnPlanWrong)

/- THE SECOND FORM. 'bulk': how many values and letters a reading holds, each counted each time it is reached (what is shared counts as often as it is met; a slice's spare places count too). A statement '..UptoSaid' is the law's where the arguments, and the package variables that the reading takes, are together of bulk at most 1048576: NARROWER than '..Said'. Prove '..Said' where nothing that the law and all that it calls make is longer than what came in: it says more and counts as full. Else prove '..UptoSaid'. A law counts once. -/
mutual
def uptoBulk {H : Type} : DataW H → Nat
  | .lit (.string bytes) => bytes.length + 1
  | .lit _ => 1
  | .nil => 1
  | .ptr d => uptoBulk d + 1
  | .slice elems spare => uptoBulkAll elems + uptoBulkAll spare + 1
  | .agg parts => uptoBulkAll parts + 1
  | .iface _ d => uptoBulk d + 1
  | .map entries => uptoBulkEntries entries + 1
  | .held _ => 1
def uptoBulkAll {H : Type} : List (DataW H) → Nat
  | [] => 0
  | d :: r => uptoBulk d + uptoBulkAll r
def uptoBulkEntries {H : Type} : List (Lit × DataW H) → Nat
  | [] => 0
  | x :: r => uptoBulkEntry x + uptoBulkEntries r
def uptoBulkEntry {H : Type} : Lit × DataW H → Nat
  | (.string bytes, d) => bytes.length + uptoBulk d + 1
  | (_, d) => uptoBulk d + 1
 end
def uptoSmall : (H : Type) → List (DataW H) → Bool := fun _ ds => decide (uptoBulkAll ds ≤ 1048576)
def OpenSpec.upto (s : _root_.Go.ChangeSpec) : _root_.Go.OpenSpec := { _root_.Go.OpenSpec.ofChange s with cond := some uptoSmall }

/-- 'laws.FnExactBestPlan', WHERE WHAT IT READS IS OF BULK AT MOST 1048576: true; the input reads as it did. -/
def fnExactBestPlanUptoRow : OpenClaim := { program := "ytidblealnaicpaa", sum := "b4c75e6f7084c346e5ab1c18b1fb4dfc5da34739ed458369fdc322123a61e8c1", func := "loop.example/g00016/laws.FnExactBestPlan", spec := "fnExactBestPlan", plainKeys := false, apart := false, narrowed := true }
def FnExactBestPlanUptoSaid : Prop := fnExactBestPlanUptoRow.holds Try.pinned (OpenSpec.upto fnExactBestPlanSpec)

/-- 'laws.FnExactMerge', WHERE WHAT IT READS IS OF BULK AT MOST 1048576: true; the input reads as it did. -/
def fnExactMergeUptoRow : OpenClaim := { program := "ytidblealnaicpaa", sum := "b4c75e6f7084c346e5ab1c18b1fb4dfc5da34739ed458369fdc322123a61e8c1", func := "loop.example/g00016/laws.FnExactMerge", spec := "fnExactMerge", plainKeys := false, apart := false, narrowed := true }
def FnExactMergeUptoSaid : Prop := fnExactMergeUptoRow.holds Try.pinned (OpenSpec.upto fnExactMergeSpec)

/-- 'laws.FnExactGoodCues', WHERE WHAT IT READS IS OF BULK AT MOST 1048576: true; the input reads as it did. -/
def fnExactGoodCuesUptoRow : OpenClaim := { program := "ytidblealnaicpaa", sum := "b4c75e6f7084c346e5ab1c18b1fb4dfc5da34739ed458369fdc322123a61e8c1", func := "loop.example/g00016/laws.FnExactGoodCues", spec := "fnExactGoodCues", inPlace := ["internal/bytealg.IndexByteString", "internal/bytealg.IndexString"], named := ["internal/bytealg.MaxLen"], plainKeys := false, apart := false, narrowed := true }
def FnExactGoodCuesUptoSaid : Prop := fnExactGoodCuesUptoRow.holds Try.pinned (OpenSpec.upto fnExactGoodCuesSpec)

/-- 'laws.FnExactWordsUnpack', WHERE WHAT IT READS IS OF BULK AT MOST 1048576: true; the input reads as it did. -/
def fnExactWordsUnpackUptoRow : OpenClaim := { program := "ytidblealnaicpaa", sum := "b4c75e6f7084c346e5ab1c18b1fb4dfc5da34739ed458369fdc322123a61e8c1", func := "loop.example/g00016/laws.FnExactWordsUnpack", spec := "fnExactWordsUnpack", plainKeys := false, apart := false, narrowed := true }
def FnExactWordsUnpackUptoSaid : Prop := fnExactWordsUnpackUptoRow.holds Try.pinned (OpenSpec.upto fnExactWordsUnpackSpec)

/-- 'laws.FnFilters', WHERE WHAT IT READS IS OF BULK AT MOST 1048576: true; the input reads as it did. -/
def fnFiltersUptoRow : OpenClaim := { program := "ytidblealnaicpaa", sum := "b4c75e6f7084c346e5ab1c18b1fb4dfc5da34739ed458369fdc322123a61e8c1", func := "loop.example/g00016/laws.FnFilters", spec := "fnFilters", plainKeys := false, apart := false, narrowed := true }
def FnFiltersUptoSaid : Prop := fnFiltersUptoRow.holds Try.pinned (OpenSpec.upto fnFiltersSpec)

/-- 'laws.FnExactEarlier', WHERE WHAT IT READS IS OF BULK AT MOST 1048576: true; the input reads as it did. -/
def fnExactEarlierUptoRow : OpenClaim := { program := "ytidblealnaicpaa", sum := "b4c75e6f7084c346e5ab1c18b1fb4dfc5da34739ed458369fdc322123a61e8c1", func := "loop.example/g00016/laws.FnExactEarlier", spec := "fnExactEarlier", plainKeys := false, apart := false, narrowed := true }
def FnExactEarlierUptoSaid : Prop := fnExactEarlierUptoRow.holds Try.pinned (OpenSpec.upto fnExactEarlierSpec)

/-- 'laws.FnExactReadSymbols', WHERE WHAT IT READS IS OF BULK AT MOST 1048576: true; the input reads as it did. -/
def fnExactReadSymbolsUptoRow : OpenClaim := { program := "ytidblealnaicpaa", sum := "b4c75e6f7084c346e5ab1c18b1fb4dfc5da34739ed458369fdc322123a61e8c1", func := "loop.example/g00016/laws.FnExactReadSymbols", spec := "fnExactReadSymbols", unfollowed := true, recurses := true, plainKeys := false, apart := false, narrowed := true }
def FnExactReadSymbolsUptoSaid : Prop := fnExactReadSymbolsUptoRow.holds Try.pinned (OpenSpec.upto fnExactReadSymbolsSpec)

/-- 'laws.FnSizes', WHERE WHAT IT READS IS OF BULK AT MOST 1048576: true; the input reads as it did. -/
def fnSizesUptoRow : OpenClaim := { program := "ytidblealnaicpaa", sum := "b4c75e6f7084c346e5ab1c18b1fb4dfc5da34739ed458369fdc322123a61e8c1", func := "loop.example/g00016/laws.FnSizes", spec := "fnSizes", unfollowed := true, recurses := true, plainKeys := false, apart := false, narrowed := true }
def FnSizesUptoSaid : Prop := fnSizesUptoRow.holds Try.pinned (OpenSpec.upto fnSizesSpec)

/-- 'laws.FnExactReadParts', WHERE WHAT IT READS IS OF BULK AT MOST 1048576: true; the input reads as it did. -/
def fnExactReadPartsUptoRow : OpenClaim := { program := "ytidblealnaicpaa", sum := "b4c75e6f7084c346e5ab1c18b1fb4dfc5da34739ed458369fdc322123a61e8c1", func := "loop.example/g00016/laws.FnExactReadParts", spec := "fnExactReadParts", unfollowed := true, recurses := true, plainKeys := false, apart := false, narrowed := true }
def FnExactReadPartsUptoSaid : Prop := fnExactReadPartsUptoRow.holds Try.pinned (OpenSpec.upto fnExactReadPartsSpec)

/-- 'laws.FnPlan', WHERE WHAT IT READS IS OF BULK AT MOST 1048576: true; the input reads as it did. -/
def fnPlanUptoRow : OpenClaim := { program := "ytidblealnaicpaa", sum := "b4c75e6f7084c346e5ab1c18b1fb4dfc5da34739ed458369fdc322123a61e8c1", func := "loop.example/g00016/laws.FnPlan", spec := "fnPlan", plainKeys := false, apart := false, narrowed := true }
def FnPlanUptoSaid : Prop := fnPlanUptoRow.holds Try.pinned (OpenSpec.upto fnPlanSpec)

end Rows
end Go.Proofs.Ytidblealnaicpaa
