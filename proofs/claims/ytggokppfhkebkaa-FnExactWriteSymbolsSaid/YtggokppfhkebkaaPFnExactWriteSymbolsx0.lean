-- written by myprint.py (a program of this session's over the kit's print)
import Derived.StillTailTactics
import Derived.Test.YtggokppfhkebkaaTFEWSE
import Derived.WalkSpells
import Derived.Test.YtggokppfhkebkaaProg
import Derived.Below
import Derived.Deep.Draws
import Derived.Deep.AppendLies
import Derived.Maps.AppendAt
import Derived.OwnWalk
import Derived.Laws.BytesArg
import Derived.Laws.MakeOwn
import Derived.Laws.OwnMore
import Derived.Deep.OwnRows
import Derived.Tactics
import Derived.Lib.ConvBytes
import Derived.Laws.Slices
import Derived.WalkKit
import Derived.KernelRfl
import Derived.RowKit3
import Derived.Deep.LoopGhost
import Derived.Deep.QuietTactic
import Derived.BigQuiet
import Derived.WideLaws
import Derived.Deep.DeepCutAuto
import Derived.Deep.CutBlock
import Derived.Deep.RegionHeld3
import Derived.Laws.Rows
import Derived.Lib.AppendStr
import Derived.ArgAppend
import Derived.Laws.IdiomCopy
import Derived.OrdersHeld
import Derived.Laws.BitsLemmas
import Derived.RowKit
import Derived.Test.YtggokppfhkebkaaTFEWSWWords
import Derived.Test.YtggokppfhkebkaaTFEWSWLast
import Derived.Test.YtggokppfhkebkaaTFEWSWTab
import Derived.Test.YtggokppfhkebkaaTFEWSWFour
import Derived.Test.YtggokppfhkebkaaTFEWSWQPut
import Derived.Test.YtggokppfhkebkaaTFEWSWApart
import Derived.Test.YtggokppfhkebkaaTFEWSWArr
import Derived.Test.YtggokppfhkebkaaTFEWSWZeros
import Derived.Test.YtggokppfhkebkaaTFEWSWFoot
import Derived.Test.YtggokppfhkebkaaTFEWSWKept
import Derived.Test.YtggokppfhkebkaaTFEWSWShare
import Derived.Test.YtggokppfhkebkaaTFEWSWN
import Derived.Test.YtggokppfhkebkaaTFEWSWFootNe
import Derived.Test.YtggokppfhkebkaaTFEWSWAt
import Derived.Test.YtggokppfhkebkaaTFEWSWEqStruct
import Derived.Test.YtggokppfhkebkaaTFEWSWRepsOne
import Derived.Test.YtggokppfhkebkaaTFEWSWInv
import Derived.Test.YtggokppfhkebkaaTFEWSWInvWords
import Derived.Test.YtggokppfhkebkaaTFEWSWGuard
import Derived.Test.YtggokppfhkebkaaTFEWSWNEv
import Derived.Test.YtggokppfhkebkaaTFEWSWMore
namespace Go.Proofs.Ytggokppfhkebkaa.PFnExactWriteSymbols
open Go.RowKit Go.Proofs.YtggokppfhkebkaaW.PrintWords Go.Proofs.YtggokppfhkebkaaW.PrintLast Go.Proofs.YtggokppfhkebkaaW.PrintMore
attribute [local go_sem] max2_int min2_int max_two min_two max_three min_three max_four min_four   -- for this text's walks alone
set_option linter.unusedVariables false
set_option linter.unusedSimpArgs false



def errW : Option Int → Value
  | none => .nilIface
  | some c => .iface 0 (.int .i64 c)
theorem errW_none : errW none = .nilIface := rfl
theorem errW_some (c : Int) : errW (some c) = .iface 0 (.int .i64 c) := rfl

theorem info3 : (Try.prog.info? 3).map (fun i => (i.zero, i.size, i.bytes)) = some (some (.int .i64 0), 1, 8) := by kernel_rfl
theorem info5 : (Try.prog.info? 5).map (fun i => (i.zero, i.size, i.bytes)) = some (some (.int .u8 0), 1, 1) := by kernel_rfl
-- the values' own types

end Go.Proofs.Ytggokppfhkebkaa.PFnExactWriteSymbols
