/-
What is proved: '[]byte(s)' and an append onto it, as two events of a walk; what is read behind them is a row of the new base world.
Conditions: none beyond each lemma's own.
-/
import Derived.Test.YtofkbjmbohgikaaDoorTFERCWWords
import Derived.ArgAppend
import Derived.Laws.IdiomStrings
namespace Go.Proofs.YtofkbjmbohgikaaDoorW.PrintWords
open Go.RowKit
section
variable {P : Program} {ops : Array Oper} {rest : List Oper} {o : Oper} {a : Act} {Q : Exit → Act → World → Prop}
theorem getD_some (l : List Int) (j : Nat) (hj : j < l.length) : l[j] = l.getD j 0 := by simp [List.getD_eq_getElem?_getD, hj]
end
end Go.Proofs.YtofkbjmbohgikaaDoorW.PrintWords
