/- A call of a closure: two steps of the walk, as the kit's 'goes_' and 'goesL_', for a function value that lies in a slot. -/
import Derived.Test.YtidblealnaicpaaTFERPWWords
import Derived.Test.YtidblealnaicpaaTFERPWLast
namespace Go.Proofs.YtidblealnaicpaaW.PrintWords
open Go.RowKit Go.Proofs.YtidblealnaicpaaW.PrintLast
section
variable {P : Program} {ops : Array Oper} {Q : Exit → Act → World → Prop}
theorem closure_runs {oi : Oper} {a : Act} {w : World} {f : FuncId} {fn : Func} {as : Array Operand} {ts : Array TypeId} {n : Tmp} {cap : Array Value} (hf : P.funcs[f]? = some fn) (hname : (fn.name == "runtime.NumGoroutine") = false) (hb : fn.body.isSome = true) (args : Array Value)
    (hop : oi.op = .call { callee := .value (.tmp n), args := as, argTypes := ts }) (hv : a.eval (.tmp n) = .func (.func f) #[] cap) (hargs : as.map a.eval ++ cap = args) : (execOp a.eval oi).run P w = .ok (.enter f args) w := by
  have he := enters_ hf hname hb args w
  have hr : resolve a.eval { callee := .value (.tmp n), args := as, argTypes := ts } oi.type = Deferred.ofValue (a.eval (.tmp n)) (as.map a.eval) := rfl
  unfold execOp
  simp only [hop, hr, hv, Deferred.ofValue, Sem.run_bind, Sem.run_pure, Result.andThen_ok, invoke, Array.empty_append, hargs]
  exact he
/-- A closure is called in a plain region. -/
theorem goesLC_ {rest : List Oper} {oi : Oper} {a : Act} {w : World} (N : Option Tmp) (hd : oi.dst = N) (hg : oi.guard = none) {f : FuncId} {fn : Func} {as : Array Operand} {ts : Array TypeId} {n : Tmp} {cap : Array Value} (hf : P.funcs[f]? = some fn) (hname : (fn.name == "runtime.NumGoroutine") = false) (hb : fn.body.isSome = true) (args : Array Value)
    (hop : oi.op = .call { callee := .value (.tmp n), args := as, argTypes := ts }) (hv : a.eval (.tmp n) = .func (.func f) #[] cap) (hargs : as.map a.eval ++ cap = args)
    (h : Calls P f args w fun e w' => ∃ v, e = .returned v ∧ wpList P ops Q rest (a.put N v) w') : wpList P ops Q (oi :: rest) a w := by
  refine wpList_plain hg fun K hK => ?_
  unfold Oper.wp
  rw [closure_runs hf hname hb args hop hv hargs, Oper.upon_enter]
  refine h.mono fun e w'' hh => ?_
  obtain ⟨v, rfl, hk⟩ := hh
  subst hd
  exact hK _ _ hk
end
end Go.Proofs.YtidblealnaicpaaW.PrintWords
