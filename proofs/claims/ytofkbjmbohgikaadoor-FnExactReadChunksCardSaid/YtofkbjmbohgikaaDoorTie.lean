/-
  DERIVED. GIVEN WITH THE SEED: THE PROGRAM's TIES (one call each: nine closed facts by the kernel) AND EACH ROW's TIE, after the 31st guide's Derived/Test/Toyas{Tie, Card}.lean. No idea stands in it: it is a product of the set-up. Laid BY PROGRAM, IN A SANDBOX (cutbox-door.mjs). By AI agents, Wed Nov 11 2026. No macro, syntax, notation, axiom, sorry.
-/
import Derived.Test.YtofkbjmbohgikaaDoorRows
import Derived.LaidByTextLater
import Derived.SevenTiedAt
import Derived.LaidSub
import Derived.LaidOnce
namespace Go.Proofs.YtofkbjmbohgikaaDoor
open Go
set_option maxRecDepth 100000
theorem seatTie1 : Tryd.prog.laidByTextLater [("loop.example/g00016/impl.zrows", Rows.laid_loop_example_g00016_impl_zrows), ("loop.example/g00016/impl.zm", Rows.laid_loop_example_g00016_impl_zm), ("loop.example/g00016/impl.zv", Rows.laid_loop_example_g00016_impl_zv), ("loop.example/g00016/impl.stillHead", Rows.laid_loop_example_g00016_impl_stillHead)] [.data, .data, .data, .widerDeep] true :=
  Program.laidByTextLater_by_one 45 8 19 (by kernel_rfl) (by kernel_rfl) (by kernel_rfl) (by kernel_rfl) (by kernel_rfl) (by kernel_rfl) (fun _ _ => by kernel_rfl)
theorem noOwnUnsafe : Tryd.pinned.checked.prog.headLifts.contains "ownunsafe" = false := by kernel_rfl
theorem tie : Tryd.prog.laidByTextLater [("loop.example/g00016/impl.stillHead", Rows.laid_loop_example_g00016_impl_stillHead)] [.widerDeep] true :=
  Program.laidByTextLater.sub seatTie1 ["loop.example/g00016/impl.stillHead"] (by kernel_rfl) (by kernel_rfl)
theorem fnExactReadChunks_row_tie : Rows.fnExactReadChunksRow.laidByTextAt .later Tryd.pinned [.widerDeep] true :=
  OpenClaim.laidByTextAt_later rfl rfl tie noOwnUnsafe
theorem tie2 : Tryd.prog.laidByTextLater [("loop.example/g00016/impl.zrows", Rows.laid_loop_example_g00016_impl_zrows), ("loop.example/g00016/impl.zm", Rows.laid_loop_example_g00016_impl_zm), ("loop.example/g00016/impl.zv", Rows.laid_loop_example_g00016_impl_zv)] [.data, .data, .data] true :=
  Program.laidByTextLater.sub seatTie1 ["loop.example/g00016/impl.zrows", "loop.example/g00016/impl.zm", "loop.example/g00016/impl.zv"] (by kernel_rfl) (by kernel_rfl)
theorem fnSmall_row_tie : Rows.fnSmallRow.laidByTextAt .later Tryd.pinned [.data, .data, .data] true :=
  OpenClaim.laidByTextAt_later rfl rfl tie2 noOwnUnsafe
theorem fnExactReadChunksUpto_row_tie : Rows.fnExactReadChunksUptoRow.laidByTextAt .later Tryd.pinned [.widerDeep] true :=
  OpenClaim.laidByTextAt_later rfl rfl tie noOwnUnsafe
theorem fnSmallUpto_row_tie : Rows.fnSmallUptoRow.laidByTextAt .later Tryd.pinned [.data, .data, .data] true :=
  OpenClaim.laidByTextAt_later rfl rfl tie2 noOwnUnsafe
end Go.Proofs.YtofkbjmbohgikaaDoor
