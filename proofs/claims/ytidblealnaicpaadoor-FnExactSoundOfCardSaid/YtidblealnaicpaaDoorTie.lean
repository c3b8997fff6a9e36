/-
  DERIVED. GIVEN WITH THE SEED: THE PROGRAM's TIES (one call each: nine closed facts by the kernel) AND EACH ROW's TIE, after the 31st guide's Derived/Test/Toyas{Tie, Card}.lean. No idea stands in it: it is a product of the set-up. Laid BY PROGRAM, IN A SANDBOX (cutbox-door.mjs). By AI agents, Wed Nov 11 2026. No macro, syntax, notation, axiom, sorry.
-/
import Derived.Test.YtidblealnaicpaaDoorRows
import Derived.LaidByTextLater
import Derived.SevenTiedAt
import Derived.LaidSub
import Derived.LaidOnce
namespace Go.Proofs.YtidblealnaicpaaDoor
open Go
set_option maxRecDepth 100000
theorem seatTie1 : Tryd.prog.laidByTextLater [("loop.example/g00016/impl.zpairs", Rows.laid_loop_example_g00016_impl_zpairs), ("loop.example/g00016/impl.zk", Rows.laid_loop_example_g00016_impl_zk)] [.data, .data] true :=
  Program.laidByTextLater_by_one 27 8 34 (by kernel_rfl) (by kernel_rfl) (by kernel_rfl) (by kernel_rfl) (by kernel_rfl) (by kernel_rfl) (fun _ _ => by kernel_rfl)
theorem noOwnUnsafe : Tryd.pinned.checked.prog.headLifts.contains "ownunsafe" = false := by kernel_rfl
theorem tie : Tryd.prog.laidByTextLater [("loop.example/g00016/impl.zpairs", Rows.laid_loop_example_g00016_impl_zpairs)] [.data] true :=
  Program.laidByTextLater.sub seatTie1 ["loop.example/g00016/impl.zpairs"] (by kernel_rfl) (by kernel_rfl)
theorem fnExactWaves_row_tie : Rows.fnExactWavesRow.laidByTextAt .later Tryd.pinned [.data] true :=
  OpenClaim.laidByTextAt_later rfl rfl tie noOwnUnsafe
theorem tie2 : Tryd.prog.laidByTextLater [("loop.example/g00016/impl.zk", Rows.laid_loop_example_g00016_impl_zk)] [.data] true :=
  Program.laidByTextLater.sub seatTie1 ["loop.example/g00016/impl.zk"] (by kernel_rfl) (by kernel_rfl)
theorem fnExactSoundOf_row_tie : Rows.fnExactSoundOfRow.laidByTextAt .later Tryd.pinned [.data] true :=
  OpenClaim.laidByTextAt_later rfl rfl tie2 noOwnUnsafe
theorem fnExactWavesUpto_row_tie : Rows.fnExactWavesUptoRow.laidByTextAt .later Tryd.pinned [.data] true :=
  OpenClaim.laidByTextAt_later rfl rfl tie noOwnUnsafe
theorem fnExactSoundOfUpto_row_tie : Rows.fnExactSoundOfUptoRow.laidByTextAt .later Tryd.pinned [.data] true :=
  OpenClaim.laidByTextAt_later rfl rfl tie2 noOwnUnsafe
end Go.Proofs.YtidblealnaicpaaDoor
