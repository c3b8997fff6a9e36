-- written by myprint.py (a program of this session's over the kit's print)
import Derived.Test.YtmnihpedokeggaaDoorProg
import Derived.Below
import Derived.Deep.Draws
import Derived.Deep.AppendLies
import Derived.Maps.AppendAt
import Derived.OwnWalk
import Derived.Laws.BytesArg
import Derived.Laws.MakeOwn
import Derived.Laws.OwnMore
import Derived.Deep.OwnRows
import Derived.Tactics
import Derived.Lib.ConvBytes
import Derived.Laws.Slices
import Derived.WalkKit
import Derived.KernelRfl
import Derived.RowKit3
import Derived.Deep.LoopGhost
import Derived.Deep.QuietTactic
import Derived.BigQuiet
import Derived.WideLaws
import Derived.Deep.DeepCutAuto
import Derived.Deep.CutBlock
import Derived.Deep.RegionHeld3
import Derived.Laws.Rows
import Derived.Lib.AppendStr
import Derived.ArgAppend
import Derived.Laws.IdiomCopy
import Derived.OrdersHeld
import Derived.Laws.BitsLemmas
import Derived.RowKit
import Derived.Test.YtmnihpedokeggaaDoorWWords
import Derived.Test.YtmnihpedokeggaaDoorWLast
import Derived.Test.YtmnihpedokeggaaDoorWTab
import Derived.Test.YtmnihpedokeggaaDoorWFour
import Derived.Test.YtmnihpedokeggaaDoorWQPut
import Derived.Test.YtmnihpedokeggaaDoorWApart
import Derived.Test.YtmnihpedokeggaaDoorWArr
import Derived.Test.YtmnihpedokeggaaDoorWZeros
import Derived.Test.YtmnihpedokeggaaDoorWFoot
import Derived.Test.YtmnihpedokeggaaDoorWKept
import Derived.Test.YtmnihpedokeggaaDoorWShare
import Derived.Test.YtmnihpedokeggaaDoorWN
import Derived.Test.YtmnihpedokeggaaDoorWFootNe
import Derived.Test.YtmnihpedokeggaaDoorWAt
import Derived.Test.YtmnihpedokeggaaDoorWEqStruct
import Derived.Test.YtmnihpedokeggaaDoorWRepsOne
import Derived.Test.YtmnihpedokeggaaDoorWInv
import Derived.Test.YtmnihpedokeggaaDoorWInvWords
import Derived.Test.YtmnihpedokeggaaDoorWGuard
import Derived.Test.YtmnihpedokeggaaDoorWNEv
import Derived.Test.YtmnihpedokeggaaDoorWMore
import Derived.Test.YtmnihpedokeggaaDoorM
namespace Go.Proofs.YtmnihpedokeggaaDoor.PFnLaps
open Go.RowKit Go.Proofs.YtmnihpedokeggaaDoorW.PrintWords Go.Proofs.YtmnihpedokeggaaDoorW.PrintLast Go.Proofs.YtmnihpedokeggaaDoorW.PrintMore
attribute [local go_sem] max2_int min2_int max_two min_two max_three min_three max_four min_four   -- for this text's walks alone
set_option linter.unusedVariables false
set_option linter.unusedSimpArgs false



def errW : Option Int → Value
  | none => .nilIface
  | some c => .iface 0 (.int .i64 c)
theorem errW_none : errW none = .nilIface := rfl
theorem errW_some (c : Int) : errW (some c) = .iface 0 (.int .i64 c) := rfl

theorem info3 : (Tryd.prog.info? 3).map (fun i => (i.zero, i.size, i.bytes)) = some (some (.int .i64 0), 1, 8) := by kernel_rfl
-- the values' own types

end Go.Proofs.YtmnihpedokeggaaDoor.PFnLaps
