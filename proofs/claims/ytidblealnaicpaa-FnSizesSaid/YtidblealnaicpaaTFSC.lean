/- A call of a closure: two steps of the walk, as the kit's 'goes_' and 'goesL_', for a function value that lies in a slot. -/
import Derived.Test.YtidblealnaicpaaTFSWWords
import Derived.Test.YtidblealnaicpaaTFSWLast
namespace Go.Proofs.YtidblealnaicpaaW.PrintWords
open Go.RowKit Go.Proofs.YtidblealnaicpaaW.PrintLast
section
variable {P : Program} {ops : Array Oper} {Q : Exit → Act → World → Prop}
theorem closure_runs {oi : Oper} {a : Act} {w : World} {f : FuncId} {fn : Func} {as : Array Operand} {ts : Array TypeId} {n : Tmp} {cap : Array Value} (hf : P.funcs[f]? = some fn) (hname : (fn.name == "runtime.NumGoroutine") = false) (hb : fn.body.isSome = true) (args : Array Value)
    (hop : oi.op = .call { callee := .value (.tmp n), args := as, argTypes := ts }) (hv : a.eval (.tmp n) = .func (.func f) #[] cap) (hargs : as.map a.eval ++ cap = args) : (execOp a.eval oi).run P w = .ok (.enter f args) w := by
  have he := enters_ hf hname hb args w
  have hr : resolve a.eval { callee := .value (.tmp n), args := as, argTypes := ts } oi.type = Deferred.ofValue (a.eval (.tmp n)) (as.map a.eval) := rfl
  unfold execOp
  simp only [hop, hr, hv, Deferred.ofValue, Sem.run_bind, Sem.run_pure, Result.andThen_ok, invoke, Array.empty_append, hargs]
  exact he
/-- A closure is called in a region that draws. -/
theorem goesC_ {oi : Oper} {N : Option Tmp} {a : Act} {w : World} {K : Act → World → Prop} {f : FuncId} {fn : Func} {as : Array Operand} {ts : Array TypeId} {n : Tmp} {cap : Array Value} (hf : P.funcs[f]? = some fn) (hname : (fn.name == "runtime.NumGoroutine") = false) (hb : fn.body.isSome = true) (args : Array Value)
    (hw : Region.wanted oi (yielded ops a.tmps) = true) (hN : oi.dst = N) (hop : oi.op = .call { callee := .value (.tmp n), args := as, argTypes := ts }) (hv : a.eval (.tmp n) = .func (.func f) #[] cap) (hargs : as.map a.eval ++ cap = args)
    (h : Calls P f args w fun e w' => ∃ v, e = .returned v ∧ K (a.put N v) w') : if Region.wanted oi (yielded ops a.tmps) = true then Oper.wp P oi a w K Q else K (a.put N undef) w :=
  call_ f args hw hN (closure_runs hf hname hb args hop hv hargs) h
end
end Go.Proofs.YtidblealnaicpaaW.PrintWords
