import Derived.Test.YtglaedjadlappaaWWords
import Derived.Test.YtglaedjadlappaaWLast
import Derived.Test.YtglaedjadlappaaWApart
import Derived.Test.YtglaedjadlappaaWFoot
import Derived.Test.YtglaedjadlappaaWKept
namespace Go.Proofs.YtglaedjadlappaaW.PrintWords
open Go.RowKit

/-- A cheap look: the first operation calls this function. -/
theorem gate_callee {P : Program} {ops : Array Oper} {rest : List Oper} {o : Oper} {a : Act} {Q : Exit → Act → World → Prop} {W : World} {f : FuncId} {as : Array Operand} {ts : Array TypeId}
    (_ho : o.op = .call { callee := .value (.func f), args := as, argTypes := ts }) (h : wpList P ops Q (o :: rest) a W) : wpList P ops Q (o :: rest) a W := h
theorem drewN_self (w : World) (n : Nat) : w.drewN n = w.drewN n := rfl
theorem set_drewN (w : World) (n : Nat) (p : Addr) (v : Value) : (w.drewN n).setCell p v = (w.setCell p v).drewN n := rfl
theorem cell_drewN (w : World) (n : Nat) (p : Addr) : (w.drewN n).cell? p = w.cell? p := rfl

/-! Facts at a world's new name, behind quiet draws. -/
section
variable {w w' u : World} {m B g e base n : Nat} {o : Obj} {a : Addr} {v : Value} {α : Type} {d : Kd α} {ok : Nat → Prop} {A : Option Addr} {xs : List α}
theorem below_at (hq : w.drewN m = w') (h : Below B u w) : Below B u w' := hq ▸ pw_below_drewN h m
theorem kept_at {S : Nat → Prop} (hq : w.drewN m = w') (h : Kept u w S) : Kept u w' S := hq ▸ Kept.drewN h m
theorem moved_at (hq : w.drewN m = w') (h : u.heap.size ≤ w.heap.size) : u.heap.size ≤ w'.heap.size := by cases hq; exact h
theorem blk_at (hq : w.drewN m = w') (h : w.heap[g]? = some o) : w'.heap[g]? = some o := by cases hq; exact h
theorem cell_at (hq : w.drewN m = w') (h : w.cell? a = some v) : w'.cell? a = some v := by cases hq; exact h
theorem Kd.R_at (hq : w.drewN m = w') (h : d.R e w base ok v xs) : d.R e w' base ok v xs := by cases hq; exact Kd.R_drewN h m
theorem Kd.S_at (hq : w.drewN m = w') (h : Kd.S d e w base ok v xs) : Kd.S d e w' base ok v xs := by cases hq; exact Kd.S_drewN h m
theorem Kd.C_at (hq : w.drewN m = w') (h : d.C w A n xs) : d.C w' A n xs := by cases hq; exact Kd.C_drewN h m
end

end Go.Proofs.YtglaedjadlappaaW.PrintWords
