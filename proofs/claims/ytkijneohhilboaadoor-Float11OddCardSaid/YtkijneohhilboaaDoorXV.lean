/- A call of a function literal that lies in a variable: a step of a region. No conditions. -/
import Derived.Test.YtkijneohhilboaaDoorWWords
namespace Go.Proofs.YtkijneohhilboaaDoor.XV
open Go Go.Proofs Go.RowKit Go.Proofs.YtkijneohhilboaaDoorW.PrintWords Go.Proofs.YtkijneohhilboaaDoorW.PrintLast
section
variable {P : Program} {ops : Array Oper} {Q : Exit → Act → World → Prop}
/-- a call of a function literal that lies in a variable -/
theorem goesT_ {oi : Oper} {N : Option Tmp} {a : Act} {w : World} {K : Act → World → Prop} {f : FuncId} {fn : Func} {s : Tmp} {as : Array Operand} {ts : Array TypeId} (hf : P.funcs[f]? = some fn) (hname : (fn.name == "runtime.NumGoroutine") = false) (hb : fn.body.isSome = true) (args : Array Value)
    (hw : Region.wanted oi (yielded ops a.tmps) = true) (hN : oi.dst = N) (hop : oi.op = .call { callee := .value (.tmp s), args := as, argTypes := ts }) (hs : a.eval (.tmp s) = a.eval (.func f)) (hargs : as.map a.eval = args)
    (h : Calls P f args w fun e w' => ∃ v, e = .returned v ∧ K (a.put N v) w') : if Region.wanted oi (yielded ops a.tmps) = true then Oper.wp P oi a w K Q else K (a.put N undef) w := by
  refine call_ f args hw hN ?_ h
  have he := enters_ hf hname hb args w
  unfold execOp
  simp only [hop, resolve, hs]
  simp [Deferred.ofValue, invoke, Act.eval, hargs, he]
end
end Go.Proofs.YtkijneohhilboaaDoor.XV
