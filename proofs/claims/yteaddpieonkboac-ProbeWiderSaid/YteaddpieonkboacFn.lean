/- A call of a function that a variable holds: the same step as a call of the function by its name. -/
import Derived.Test.YteaddpieonkboacProg
import Derived.Test.YteaddpieonkboacWWords
import Derived.Test.YteaddpieonkboacWLast
import Derived.Test.YteaddpieonkboacWMore
namespace Go.Proofs.Yteaddpieonkboac.FnF
open Go Go.RowKit Go.Proofs.YteaddpieonkboacW.PrintWords Go.Proofs.YteaddpieonkboacW.PrintLast
section
variable {P : Program} {ops : Array Oper} {rest : List Oper} {o oi : Oper} {a : Act} {Q : Exit → Act → World → Prop} {W w : World}
/-- The operation is a call of a variable that holds this function. -/
theorem gateT {f : FuncId} {t : Tmp} {xs : Array Operand} {ts : Array TypeId} (_ho : o.op = .call { callee := .value (.tmp t), args := xs, argTypes := ts }) (_hv : a.eval (.tmp t) = .func (.func f) #[] #[]) (h : wpList P ops Q (o :: rest) a W) : wpList P ops Q (o :: rest) a W := h
/-- Its step. -/
theorem goesT_ (N : Option Tmp) (hd : oi.dst = N) (hg : oi.guard = none) {f : FuncId} {fn : Func} {t : Tmp} {xs : Array Operand} {ts : Array TypeId} (hf : P.funcs[f]? = some fn) (hname : (fn.name == "runtime.NumGoroutine") = false) (hb : fn.body.isSome = true) (args : Array Value)
    (hop : oi.op = .call { callee := .value (.tmp t), args := xs, argTypes := ts }) (hv : a.eval (.tmp t) = .func (.func f) #[] #[]) (hargs : xs.map a.eval = args)
    (h : Calls P f args w fun e w' => ∃ v, e = .returned v ∧ wpList P ops Q rest (a.put N v) w') : wpList P ops Q (oi :: rest) a w := by
  refine wpList_plain hg fun K hK => ?_
  have he := enters_ hf hname hb args w
  have hrun : (execOp a.eval oi).run P w = .ok (.enter f args) w := by
    unfold execOp
    simp [hop, hv, resolve, Deferred.ofValue, invoke, hargs, he]
  unfold Oper.wp
  rw [hrun, Oper.upon_enter]
  refine h.mono fun e w'' hh => ?_
  obtain ⟨v, rfl, hk⟩ := hh
  subst hd
  exact hK _ _ hk
end
end Go.Proofs.Yteaddpieonkboac.FnF
