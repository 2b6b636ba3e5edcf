/-
  Helper lemmas for this seat: a call of a function VALUE (a closure, a plain function handed over) in a plain region, as an arm of the walk.
-/
import Derived.Test.YtekfjpnfhgbalaaWLast
import Derived.Test.YtekfjpnfhgbalaaWMore
namespace Go.Proofs.YtekfjpnfhgbalaaX
open Go.RowKit Go.Proofs.YtekfjpnfhgbalaaW.PrintWords Go.Proofs.YtekfjpnfhgbalaaW.PrintLast
section
variable {P : Program} {ops : Array Oper} {Q : Exit → Act → World → Prop}

/-- What a function value enters. -/
def EntersV (P : Program) (g : FuncId) : Prop := ∀ (args : Array Value) (w : World), (callFunc g args).run P w = .ok (.enter g args) w
theorem EntersV.of {g : FuncId} {fn : Func} (hf : P.funcs[g]? = some fn) (hname : (fn.name == "runtime.NumGoroutine") = false) (hb : fn.body.isSome = true) : EntersV P g := fun args w => enters_ hf hname hb args w

/-- The operation is a call of the function value that lies there (a cheap look ahead of a dear step). -/
theorem gate_value {o : Oper} {rest : List Oper} {a : Act} {W : World} {x : Operand} {as : Array Operand} {ts : Array TypeId} (_ho : o.op = .call { callee := .value x, args := as, argTypes := ts }) (h : wpList P ops Q (o :: rest) a W) : wpList P ops Q (o :: rest) a W := h

theorem goesF_ {rest : List Oper} {oi : Oper} {a : Act} {w : World} (N : Option Tmp) (hd : oi.dst = N) (hg : oi.guard = none) {g : FuncId} (lb : Array Value) (heg : EntersV P g) {x : Operand} {as : Array Operand} {ts : Array TypeId} (args : Array Value)
    (hop : oi.op = .call { callee := .value x, args := as, argTypes := ts }) (hx : a.eval x = .func (.func g) #[] lb) (hargs : as.map a.eval = args)
    (h : Calls P g (args ++ lb) w fun e w' => ∃ v, e = .returned v ∧ wpList P ops Q rest (a.put N v) w') : wpList P ops Q (oi :: rest) a w := by
  refine wpList_plain hg fun K hK => ?_
  have he := heg (args ++ lb) w
  have hrun : (execOp a.eval oi).run P w = .ok (.enter g (args ++ lb)) w := by
    unfold execOp
    simp [hop, resolve, Deferred.ofValue, invoke, hx, hargs, he]
  unfold Oper.wp
  rw [hrun, Oper.upon_enter]
  refine h.mono fun e w'' hh => ?_
  obtain ⟨v, rfl, hk⟩ := hh
  subst hd
  exact hK _ _ hk
end
end Go.Proofs.YtekfjpnfhgbalaaX
