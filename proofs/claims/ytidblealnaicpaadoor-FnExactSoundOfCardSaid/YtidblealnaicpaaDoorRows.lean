/-
  NARROWER THAN 'FOR EVERY INPUT', by the rows' own cells (each row's printed sentence says how): FnExactWaves: laid · FnExactSoundOf: laid.
  DERIVED. THE GIVEN ROWS OF THIS SEAT. 2 by the template 'for every input the law returns true; each argument reads behind the call as it read before'; 0 by the template 'total and deterministic' (their statements: YtidblealnaicpaaDoorTotals.lean).
  GIVEN WITH THE SEED: the statements are not yours to turn. If you find one false, say at which input.
  Laid BY PROGRAM, IN A SANDBOX (cutbox-rows.mjs): the forced cells as the released guide's own fill.sh prints them over the translation 17f007aa2e9ee82b… (all of the seat's roots in one cut). By AI agents, Wed Nov 11 2026. No macro, syntax, notation, axiom, sorry.
-/
import Derived.Test.YtidblealnaicpaaDoorChecked
import GoSem.Claim
import GoSem.ClaimJoined
import GoSem.ClaimMapViews
import Derived.JoinedTies
import Derived.KernelRfl
namespace Go.Proofs.YtidblealnaicpaaDoor
/- THE CELL 'sum', in the pinned program and in every row, IS THE sha256 OF THE DUMP (.gsa) THAT YtidblealnaicpaaDoorProg.lean LOADS. Nothing in Lean hashes anything: it is a label: what it is worth is what the hold of that sum in a sandbox is worth. -/
noncomputable def Tryd.pinned : Pinned := { name := "ytidblealnaicpaadoor", sum := "17f007aa2e9ee82bc8d0c7d5394115041172c4bfe155e05b0f32f91a2699bfc1", checked := Tryd.checked }
namespace Rows
def none {H : Type} : Left H := { results := [], args := [] }

/- WHAT THE LISTED PACKAGE-LEVEL VARIABLES READ AS WHEN THE CALL BEGINS. Each datum BY PROGRAM (the guide's laid-datum.mjs) off the statement by which the dump's own 'gosem.cut.vars' lays the variable. In a bare row this is a premise. The card (YtidblealnaicpaaDoorCards.lean) ties it to the program's text. -/
def laid_loop_example_g00016_impl_zpairs {H : Type} : DataW H := .agg [.agg [.lit (.float .f64 4607182418800017408), .lit (.float .f64 0)], .agg [.lit (.float .f64 4606496786581982534), .lit (.float .f64 13823937468626282851)], .agg [.lit (.float .f64 4604544271217802189), .lit (.float .f64 13827916308072577997)], .agg [.lit (.float .f64 4600565431771507043), .lit (.float .f64 13829868823436758342)], .agg [.lit (.float .f64 0), .lit (.float .f64 13830554455654793216)], .agg [.lit (.float .f64 13823937468626282851), .lit (.float .f64 13829868823436758342)], .agg [.lit (.float .f64 13827916308072577997), .lit (.float .f64 13827916308072577997)], .agg [.lit (.float .f64 13829868823436758342), .lit (.float .f64 13823937468626282851)]]
def laid_loop_example_g00016_impl_zk {H : Type} : DataW H := .agg [.lit (.int .i64 16384), .lit (.int .i64 16364), .lit (.int .i64 16305), .lit (.int .i64 16207), .lit (.int .i64 16069), .lit (.int .i64 15893), .lit (.int .i64 15679), .lit (.int .i64 15426), .lit (.int .i64 15137), .lit (.int .i64 14811), .lit (.int .i64 14449), .lit (.int .i64 14053), .lit (.int .i64 13623), .lit (.int .i64 13160), .lit (.int .i64 12665), .lit (.int .i64 12140), .lit (.int .i64 11585), .lit (.int .i64 11003), .lit (.int .i64 10394), .lit (.int .i64 9760), .lit (.int .i64 9102), .lit (.int .i64 8423), .lit (.int .i64 7723), .lit (.int .i64 7005), .lit (.int .i64 6270), .lit (.int .i64 5520), .lit (.int .i64 4756), .lit (.int .i64 3981), .lit (.int .i64 3196), .lit (.int .i64 2404), .lit (.int .i64 1606), .lit (.int .i64 804), .lit (.int .i64 0)]

/-- 'laws.FnExactWaves': WHATEVER THE INPUT: true; the input reads as it did. -/
def fnExactWavesSpec : ChangeSpec := { name := "fnExactWaves", vars := ["loop.example/g00016/impl.zpairs"], fn := fun _ => fun
  | [d, g1] => { results := [.lit (.bool true)], args := [d], vars := [g1] }
  | _ => none }
def fnExactWavesRow : OpenClaim := { program := "ytidblealnaicpaadoor", sum := "17f007aa2e9ee82bc8d0c7d5394115041172c4bfe155e05b0f32f91a2699bfc1", func := "loop.example/g00016/laws.FnExactWaves", spec := "fnExactWaves", named := ["loop.example/g00016/impl.zpairs"], apart := false, laid := [("loop.example/g00016/impl.zpairs", laid_loop_example_g00016_impl_zpairs)] }
def FnExactWavesSaid : Prop := fnExactWavesRow.holds Tryd.pinned (OpenSpec.ofChange fnExactWavesSpec)

/-- ITS FALSE NEIGHBOUR: 'it returns false'. Refute it at one input. -/
def fnExactWavesWrong : ChangeSpec := { name := "fnExactWaves", vars := ["loop.example/g00016/impl.zpairs"], fn := fun _ => fun
  | [d, g1] => { results := [.lit (.bool false)], args := [d], vars := [g1] }
  | _ => none }
def FnExactWavesWrongFalsely : Prop := fnExactWavesRow.holds Tryd.pinned (OpenSpec.ofChange fnExactWavesWrong)

/-- 'laws.FnExactSoundOf': WHATEVER THE INPUT: true; the input reads as it did. -/
def fnExactSoundOfSpec : ChangeSpec := { name := "fnExactSoundOf", vars := ["loop.example/g00016/impl.zk"], fn := fun _ => fun
  | [d, g1] => { results := [.lit (.bool true)], args := [d], vars := [g1] }
  | _ => none }
def fnExactSoundOfRow : OpenClaim := { program := "ytidblealnaicpaadoor", sum := "17f007aa2e9ee82bc8d0c7d5394115041172c4bfe155e05b0f32f91a2699bfc1", func := "loop.example/g00016/laws.FnExactSoundOf", spec := "fnExactSoundOf", named := ["loop.example/g00016/impl.zk"], apart := false, laid := [("loop.example/g00016/impl.zk", laid_loop_example_g00016_impl_zk)] }
def FnExactSoundOfSaid : Prop := fnExactSoundOfRow.holds Tryd.pinned (OpenSpec.ofChange fnExactSoundOfSpec)

/-- ITS FALSE NEIGHBOUR: 'it returns false'. Refute it at one input. -/
def fnExactSoundOfWrong : ChangeSpec := { name := "fnExactSoundOf", vars := ["loop.example/g00016/impl.zk"], fn := fun _ => fun
  | [d, g1] => { results := [.lit (.bool false)], args := [d], vars := [g1] }
  | _ => none }
def FnExactSoundOfWrongFalsely : Prop := fnExactSoundOfRow.holds Tryd.pinned (OpenSpec.ofChange fnExactSoundOfWrong)

/- THE SECOND FORM. 'bulk': how many values and letters a reading holds, each counted each time it is reached (what is shared counts as often as it is met; a slice's spare places count too). A statement '..UptoSaid' is the law's where the arguments, and the package variables that the reading takes, are together of bulk at most 1048576: NARROWER than '..Said'. Prove '..Said' where nothing that the law and all that it calls make is longer than what came in: it says more and counts as full. Else prove '..UptoSaid'. A law counts once. -/
mutual
def uptoBulk {H : Type} : DataW H → Nat
  | .lit (.string bytes) => bytes.length + 1
  | .lit _ => 1
  | .nil => 1
  | .ptr d => uptoBulk d + 1
  | .slice elems spare => uptoBulkAll elems + uptoBulkAll spare + 1
  | .agg parts => uptoBulkAll parts + 1
  | .iface _ d => uptoBulk d + 1
  | .map entries => uptoBulkEntries entries + 1
  | .held _ => 1
def uptoBulkAll {H : Type} : List (DataW H) → Nat
  | [] => 0
  | d :: r => uptoBulk d + uptoBulkAll r
def uptoBulkEntries {H : Type} : List (Lit × DataW H) → Nat
  | [] => 0
  | x :: r => uptoBulkEntry x + uptoBulkEntries r
def uptoBulkEntry {H : Type} : Lit × DataW H → Nat
  | (.string bytes, d) => bytes.length + uptoBulk d + 1
  | (_, d) => uptoBulk d + 1
 end
def uptoSmall : (H : Type) → List (DataW H) → Bool := fun _ ds => decide (uptoBulkAll ds ≤ 1048576)
def OpenSpec.upto (s : _root_.Go.ChangeSpec) : _root_.Go.OpenSpec := { _root_.Go.OpenSpec.ofChange s with cond := some uptoSmall }

/-- 'laws.FnExactWaves', WHERE WHAT IT READS IS OF BULK AT MOST 1048576: true; the input reads as it did. -/
def fnExactWavesUptoRow : OpenClaim := { program := "ytidblealnaicpaadoor", sum := "17f007aa2e9ee82bc8d0c7d5394115041172c4bfe155e05b0f32f91a2699bfc1", func := "loop.example/g00016/laws.FnExactWaves", spec := "fnExactWaves", named := ["loop.example/g00016/impl.zpairs"], apart := false, laid := [("loop.example/g00016/impl.zpairs", laid_loop_example_g00016_impl_zpairs)], narrowed := true }
def FnExactWavesUptoSaid : Prop := fnExactWavesUptoRow.holds Tryd.pinned (OpenSpec.upto fnExactWavesSpec)

/-- 'laws.FnExactSoundOf', WHERE WHAT IT READS IS OF BULK AT MOST 1048576: true; the input reads as it did. -/
def fnExactSoundOfUptoRow : OpenClaim := { program := "ytidblealnaicpaadoor", sum := "17f007aa2e9ee82bc8d0c7d5394115041172c4bfe155e05b0f32f91a2699bfc1", func := "loop.example/g00016/laws.FnExactSoundOf", spec := "fnExactSoundOf", named := ["loop.example/g00016/impl.zk"], apart := false, laid := [("loop.example/g00016/impl.zk", laid_loop_example_g00016_impl_zk)], narrowed := true }
def FnExactSoundOfUptoSaid : Prop := fnExactSoundOfUptoRow.holds Tryd.pinned (OpenSpec.upto fnExactSoundOfSpec)

end Rows
end Go.Proofs.YtidblealnaicpaaDoor
