/-
What is proved: that the variable impl.stillHead holds its eight bytes (MX) goes along with every world that is only made larger.
Conditions: none beyond each lemma's own.
-/
import Derived.Test.YtofkbjmbohgikaaDoorTFERCWWords
import Derived.Test.YtofkbjmbohgikaaDoorTFERCWLast
import Derived.Test.YtofkbjmbohgikaaDoorTFERCWMore
import Derived.Test.YtofkbjmbohgikaaDoorProg
namespace Go.Proofs.YtofkbjmbohgikaaDoorW.PrintWords
open Go.RowKit Go.Proofs.YtofkbjmbohgikaaDoorW.PrintLast
def shL : List Int := [137, 77, 83, 73, 13, 10, 26, 10]
def MX (w : World) : Prop := ∃ AH cH, w.cell? ⟨0, 0, none⟩ = some (.slice AH shL.length cH) ∧ shL.length ≤ cH ∧ Kd.C (Kd.int .u8) w AH shL.length shL
theorem MX.below {w W : World} (h : MX w) (hb : Below w.heap.size w W) : MX W := by
  obtain ⟨A, c, h1, h2, h3⟩ := h
  exact ⟨A, c, (hb.cell (World.block_lt_of_cell? w _ h1)).trans h1, h2, Kd.C_below h3 hb⟩
/-- A string made of a cut of what came in. -/
theorem V_string {P : Program} {w : World} {e0 base : Nat} {ok : Nat → Prop} {src dst e : TypeId} {A : Option Addr} {n c : Nat} {xs : List Int} (hs : P.underlying src = some (.slice e)) (he : P.underlying e = some (.int .u8)) (hd : P.underlying dst = some .string)
    (h : Kd.V (Kd.int .u8) e0 w base ok (.slice A n c) xs) : (convert src dst (.slice A n c)).run P w = .ok (.string (strOfNums xs)) w := by
  obtain ⟨rfl, h2, h3⟩ := Kd.V_reads' h
  exact Kd.C_string hs he hd h3
end Go.Proofs.YtofkbjmbohgikaaDoorW.PrintWords
