/-
  NARROWER THAN 'FOR EVERY INPUT', by the rows' own cells (each row's printed sentence says how): FnExactReadChunks: laid · FnSmall: laid.
  DERIVED. THE GIVEN ROWS OF THIS SEAT. 2 by the template 'for every input the law returns true; each argument reads behind the call as it read before'; 0 by the template 'total and deterministic' (their statements: YtofkbjmbohgikaaDoorTotals.lean).
  GIVEN WITH THE SEED: the statements are not yours to turn. If you find one false, say at which input.
  Laid BY PROGRAM, IN A SANDBOX (cutbox-rows.mjs): the forced cells as the released guide's own fill.sh prints them over the translation 2076da2ae061bc94… (all of the seat's roots in one cut). By AI agents, Wed Nov 11 2026. No macro, syntax, notation, axiom, sorry.
-/
import Derived.Test.YtofkbjmbohgikaaDoorChecked
import GoSem.Claim
import GoSem.ClaimJoined
import GoSem.ClaimMapViews
import Derived.JoinedTies
import Derived.KernelRfl
namespace Go.Proofs.YtofkbjmbohgikaaDoor
/- THE CELL 'sum', in the pinned program and in every row, IS THE sha256 OF THE DUMP (.gsa) THAT YtofkbjmbohgikaaDoorProg.lean LOADS. Nothing in Lean hashes anything: it is a label: what it is worth is what the hold of that sum in a sandbox is worth. -/
noncomputable def Tryd.pinned : Pinned := { name := "ytofkbjmbohgikaadoor", sum := "2076da2ae061bc94bdf3b27b94ebe0864602ae41bf3bc6344c61a115fda15042", checked := Tryd.checked }
namespace Rows
def none {H : Type} : Left H := { results := [], args := [] }

/- WHAT THE LISTED PACKAGE-LEVEL VARIABLES READ AS WHEN THE CALL BEGINS. Each datum BY PROGRAM (the guide's laid-datum.mjs) off the statement by which the dump's own 'gosem.cut.vars' lays the variable. In a bare row this is a premise. The card (YtofkbjmbohgikaaDoorCards.lean) ties it to the program's text. -/
def laid_loop_example_g00016_impl_stillHead {H : Type} : DataW H := .slice [.lit (.int .u8 137), .lit (.int .u8 77), .lit (.int .u8 83), .lit (.int .u8 73), .lit (.int .u8 13), .lit (.int .u8 10), .lit (.int .u8 26), .lit (.int .u8 10)] []
def laid_loop_example_g00016_impl_zrows {H : Type} : DataW H := .agg [.agg [.lit (.int .i64 1), .lit (.int .i64 1), .lit (.int .i64 1), .lit (.int .i64 1)], .agg [.lit (.int .i64 2), .lit (.int .i64 1), .lit (.int .i64 (-1)), .lit (.int .i64 (-2))], .agg [.lit (.int .i64 1), .lit (.int .i64 (-1)), .lit (.int .i64 (-1)), .lit (.int .i64 1)], .agg [.lit (.int .i64 1), .lit (.int .i64 (-2)), .lit (.int .i64 2), .lit (.int .i64 (-1))]]
def laid_loop_example_g00016_impl_zm {H : Type} : DataW H := .agg [.agg [.lit (.int .i64 13107), .lit (.int .i64 5243), .lit (.int .i64 8066)], .agg [.lit (.int .i64 11916), .lit (.int .i64 4660), .lit (.int .i64 7490)], .agg [.lit (.int .i64 10082), .lit (.int .i64 4194), .lit (.int .i64 6554)], .agg [.lit (.int .i64 9362), .lit (.int .i64 3647), .lit (.int .i64 5825)], .agg [.lit (.int .i64 8192), .lit (.int .i64 3355), .lit (.int .i64 5243)], .agg [.lit (.int .i64 7282), .lit (.int .i64 2893), .lit (.int .i64 4559)]]
def laid_loop_example_g00016_impl_zv {H : Type} : DataW H := .agg [.agg [.lit (.int .i64 10), .lit (.int .i64 16), .lit (.int .i64 13)], .agg [.lit (.int .i64 11), .lit (.int .i64 18), .lit (.int .i64 14)], .agg [.lit (.int .i64 13), .lit (.int .i64 20), .lit (.int .i64 16)], .agg [.lit (.int .i64 14), .lit (.int .i64 23), .lit (.int .i64 18)], .agg [.lit (.int .i64 16), .lit (.int .i64 25), .lit (.int .i64 20)], .agg [.lit (.int .i64 18), .lit (.int .i64 29), .lit (.int .i64 23)]]

/-- 'laws.FnExactReadChunks': WHATEVER THE INPUT: true; the input reads as it did. -/
def fnExactReadChunksSpec : ChangeSpec := { name := "fnExactReadChunks", vars := ["loop.example/g00016/impl.stillHead"], fn := fun _ => fun
  | [d, g1] => { results := [.lit (.bool true)], args := [d], vars := [g1] }
  | _ => none }
def fnExactReadChunksRow : OpenClaim := { program := "ytofkbjmbohgikaadoor", sum := "2076da2ae061bc94bdf3b27b94ebe0864602ae41bf3bc6344c61a115fda15042", func := "loop.example/g00016/laws.FnExactReadChunks", spec := "fnExactReadChunks", named := ["loop.example/g00016/impl.stillHead"], apart := false, laid := [("loop.example/g00016/impl.stillHead", laid_loop_example_g00016_impl_stillHead)] }
def FnExactReadChunksSaid : Prop := fnExactReadChunksRow.holds Tryd.pinned (OpenSpec.ofChange fnExactReadChunksSpec)

/-- ITS FALSE NEIGHBOUR: 'it returns false'. Refute it at one input. -/
def fnExactReadChunksWrong : ChangeSpec := { name := "fnExactReadChunks", vars := ["loop.example/g00016/impl.stillHead"], fn := fun _ => fun
  | [d, g1] => { results := [.lit (.bool false)], args := [d], vars := [g1] }
  | _ => none }
def FnExactReadChunksWrongFalsely : Prop := fnExactReadChunksRow.holds Tryd.pinned (OpenSpec.ofChange fnExactReadChunksWrong)

/-- 'laws.FnSmall': WHATEVER THE INPUT: true; the input reads as it did. -/
def fnSmallSpec : ChangeSpec := { name := "fnSmall", vars := ["loop.example/g00016/impl.zrows", "loop.example/g00016/impl.zm", "loop.example/g00016/impl.zv"], fn := fun _ => fun
  | [d, g1, g2, g3] => { results := [.lit (.bool true)], args := [d], vars := [g1, g2, g3] }
  | _ => none }
def fnSmallRow : OpenClaim := { program := "ytofkbjmbohgikaadoor", sum := "2076da2ae061bc94bdf3b27b94ebe0864602ae41bf3bc6344c61a115fda15042", func := "loop.example/g00016/laws.FnSmall", spec := "fnSmall", unfollowed := true, recurses := true, named := ["loop.example/g00016/impl.zrows", "loop.example/g00016/impl.zm", "loop.example/g00016/impl.zv"], apart := false, laid := [("loop.example/g00016/impl.zrows", laid_loop_example_g00016_impl_zrows), ("loop.example/g00016/impl.zm", laid_loop_example_g00016_impl_zm), ("loop.example/g00016/impl.zv", laid_loop_example_g00016_impl_zv)] }
def FnSmallSaid : Prop := fnSmallRow.holds Tryd.pinned (OpenSpec.ofChange fnSmallSpec)

/-- ITS FALSE NEIGHBOUR: 'it returns false'. Refute it at one input. -/
def fnSmallWrong : ChangeSpec := { name := "fnSmall", vars := ["loop.example/g00016/impl.zrows", "loop.example/g00016/impl.zm", "loop.example/g00016/impl.zv"], fn := fun _ => fun
  | [d, g1, g2, g3] => { results := [.lit (.bool false)], args := [d], vars := [g1, g2, g3] }
  | _ => none }
def FnSmallWrongFalsely : Prop := fnSmallRow.holds Tryd.pinned (OpenSpec.ofChange fnSmallWrong)

/- THE SECOND FORM. 'bulk': how many values and letters a reading holds, each counted each time it is reached (what is shared counts as often as it is met; a slice's spare places count too). A statement '..UptoSaid' is the law's where the arguments, and the package variables that the reading takes, are together of bulk at most 1048576: NARROWER than '..Said'. Prove '..Said' where nothing that the law and all that it calls make is longer than what came in: it says more and counts as full. Else prove '..UptoSaid'. A law counts once. -/
mutual
def uptoBulk {H : Type} : DataW H → Nat
  | .lit (.string bytes) => bytes.length + 1
  | .lit _ => 1
  | .nil => 1
  | .ptr d => uptoBulk d + 1
  | .slice elems spare => uptoBulkAll elems + uptoBulkAll spare + 1
  | .agg parts => uptoBulkAll parts + 1
  | .iface _ d => uptoBulk d + 1
  | .map entries => uptoBulkEntries entries + 1
  | .held _ => 1
def uptoBulkAll {H : Type} : List (DataW H) → Nat
  | [] => 0
  | d :: r => uptoBulk d + uptoBulkAll r
def uptoBulkEntries {H : Type} : List (Lit × DataW H) → Nat
  | [] => 0
  | x :: r => uptoBulkEntry x + uptoBulkEntries r
def uptoBulkEntry {H : Type} : Lit × DataW H → Nat
  | (.string bytes, d) => bytes.length + uptoBulk d + 1
  | (_, d) => uptoBulk d + 1
 end
def uptoSmall : (H : Type) → List (DataW H) → Bool := fun _ ds => decide (uptoBulkAll ds ≤ 1048576)
def OpenSpec.upto (s : _root_.Go.ChangeSpec) : _root_.Go.OpenSpec := { _root_.Go.OpenSpec.ofChange s with cond := some uptoSmall }

/-- 'laws.FnExactReadChunks', WHERE WHAT IT READS IS OF BULK AT MOST 1048576: true; the input reads as it did. -/
def fnExactReadChunksUptoRow : OpenClaim := { program := "ytofkbjmbohgikaadoor", sum := "2076da2ae061bc94bdf3b27b94ebe0864602ae41bf3bc6344c61a115fda15042", func := "loop.example/g00016/laws.FnExactReadChunks", spec := "fnExactReadChunks", named := ["loop.example/g00016/impl.stillHead"], apart := false, laid := [("loop.example/g00016/impl.stillHead", laid_loop_example_g00016_impl_stillHead)], narrowed := true }
def FnExactReadChunksUptoSaid : Prop := fnExactReadChunksUptoRow.holds Tryd.pinned (OpenSpec.upto fnExactReadChunksSpec)

/-- 'laws.FnSmall', WHERE WHAT IT READS IS OF BULK AT MOST 1048576: true; the input reads as it did. -/
def fnSmallUptoRow : OpenClaim := { program := "ytofkbjmbohgikaadoor", sum := "2076da2ae061bc94bdf3b27b94ebe0864602ae41bf3bc6344c61a115fda15042", func := "loop.example/g00016/laws.FnSmall", spec := "fnSmall", unfollowed := true, recurses := true, named := ["loop.example/g00016/impl.zrows", "loop.example/g00016/impl.zm", "loop.example/g00016/impl.zv"], apart := false, laid := [("loop.example/g00016/impl.zrows", laid_loop_example_g00016_impl_zrows), ("loop.example/g00016/impl.zm", laid_loop_example_g00016_impl_zm), ("loop.example/g00016/impl.zv", laid_loop_example_g00016_impl_zv)], narrowed := true }
def FnSmallUptoSaid : Prop := fnSmallUptoRow.holds Tryd.pinned (OpenSpec.upto fnSmallSpec)

end Rows
end Go.Proofs.YtofkbjmbohgikaaDoor
