/-
  Helper lemmas for this seat: a call of a function VALUE (a closure, a plain function handed over) in a plain region, as an arm of the walk.
-/
import Derived.Test.YtnlnojolodnheaaWLast
import Derived.Test.YtnlnojolodnheaaWMore
import Derived.Maps.OwnSet
import Derived.Maps.OwnOps
namespace Go.Proofs.YtnlnojolodnheaaX
open Go.RowKit Go.Proofs.YtnlnojolodnheaaW.PrintWords Go.Proofs.YtnlnojolodnheaaW.PrintLast
section
variable {P : Program} {ops : Array Oper} {Q : Exit → Act → World → Prop}

/-- What a function value enters. -/
def EntersV (P : Program) (g : FuncId) : Prop := ∀ (args : Array Value) (w : World), (callFunc g args).run P w = .ok (.enter g args) w
theorem EntersV.of {g : FuncId} {fn : Func} (hf : P.funcs[g]? = some fn) (hname : (fn.name == "runtime.NumGoroutine") = false) (hb : fn.body.isSome = true) : EntersV P g := fun args w => enters_ hf hname hb args w

/-- The operation is a call of the function value that lies there (a cheap look ahead of a dear step). -/
theorem gate_value {o : Oper} {rest : List Oper} {a : Act} {W : World} {x : Operand} {as : Array Operand} {ts : Array TypeId} (_ho : o.op = .call { callee := .value x, args := as, argTypes := ts }) (h : wpList P ops Q (o :: rest) a W) : wpList P ops Q (o :: rest) a W := h

theorem goesF_ {rest : List Oper} {oi : Oper} {a : Act} {w : World} (N : Option Tmp) (hd : oi.dst = N) (hg : oi.guard = none) {g : FuncId} (lb : Array Value) (heg : EntersV P g) {x : Operand} {as : Array Operand} {ts : Array TypeId} (args : Array Value)
    (hop : oi.op = .call { callee := .value x, args := as, argTypes := ts }) (hx : a.eval x = .func (.func g) #[] lb) (hargs : as.map a.eval = args)
    (h : Calls P g (args ++ lb) w fun e w' => ∃ v, e = .returned v ∧ wpList P ops Q rest (a.put N v) w') : wpList P ops Q (oi :: rest) a w := by
  refine wpList_plain hg fun K hK => ?_
  have he := heg (args ++ lb) w
  have hrun : (execOp a.eval oi).run P w = .ok (.enter g (args ++ lb)) w := by
    unfold execOp
    simp [hop, resolve, Deferred.ofValue, invoke, hx, hargs, he]
  unfold Oper.wp
  rw [hrun, Oper.upon_enter]
  refine h.mono fun e w'' hh => ?_
  obtain ⟨v, rfl, hk⟩ := hh
  subst hd
  exact hK _ _ hk
end
section
variable {P : Program} {ops : Array Oper} {Q : Exit → Act → World → Prop}
/-- A call of a function value in a region that draws its order. -/
theorem goesV_ {oi : Oper} {N : Option Tmp} {a : Act} {w : World} {K : Act → World → Prop} {g : FuncId} (lb : Array Value) (heg : EntersV P g) {x : Operand} {as : Array Operand} {ts : Array TypeId} (args : Array Value)
    (hw : Region.wanted oi (yielded ops a.tmps) = true) (hN : oi.dst = N) (hop : oi.op = .call { callee := .value x, args := as, argTypes := ts }) (hx : a.eval x = .func (.func g) #[] lb) (hargs : as.map a.eval = args)
    (h : Calls P g (args ++ lb) w fun e w' => ∃ v, e = .returned v ∧ K (a.put N v) w') : if Region.wanted oi (yielded ops a.tmps) = true then Oper.wp P oi a w K Q else K (a.put N undef) w := by
  refine call_ g (args ++ lb) hw hN ?_ h
  have he := heg (args ++ lb) w
  unfold execOp
  simp [hop, resolve, Deferred.ofValue, invoke, hx, hargs, he]
end
section
open Go.Maps
variable {H : Type} {P : Program}
/-- An element that reads as a bool's datum IS that bool. -/
theorem plainElem_bool_inv {e : TypeId} (he : P.underlying e = some .bool) {v : Value} {z : DataW H × List MemPlace} (h : plainElem P e v = some z) : ∃ x, v = .bool x ∧ z = (.lit (.bool x), []) := by
  unfold plainElem at h
  rw [he] at h
  cases v <;> simp at h
  obtain rfl := h
  exact ⟨_, rfl, rfl⟩
/-- 'm[k]' (without 'ok') at elements of type bool. -/
theorem wpList_lookup_own_bool (w : World) {ops : Array Oper} {rest : List Oper} {o : Oper} {a : Act} {Q : Exit → Act → World → Prop}
    (hg : o.guard = none) (m x : Operand) (t : TypeId) (hop : o.op = Op.lookup t m x false)
    (k e : TypeId) (K : Keyed P k) (ht : P.underlying t = some (.map k e)) (he : P.underlying e = some .bool) (hz : (zeroValue e).run P w = .ok (.bool false) w) (b n : Nat) (D : DataW H)
    (hm : a.eval m = .map (some b)) (hown : w.ownsMap P k (plainElem P e) b n D) (key : Value) (kl : Lit) (hx : a.eval x = key) (hkey : keyOf P k key = some kl)
    (y : Bool) (hy : D.atKey kl (.lit (.bool false)) = .lit (.bool y))
    (hK : wpList P ops Q rest (a.put o.dst (.bool y)) w) :
    wpList P ops Q (o :: rest) a w := by
  refine wpList_plain hg fun K' hK' => ?_
  obtain ⟨v, ps, hrun, hv⟩ := hown.lookup K ht hz (plainElem_bool he false) hkey
  obtain ⟨c, rfl, hc⟩ := plainElem_bool_inv he hv
  have hcy : c = y := by
    have h1 := congrArg Prod.fst hc
    rw [hy] at h1
    simpa using h1.symm
  subst hcy
  unfold Oper.wp
  simp [execOp, hop, hm, hx, hrun, Result.andThen]
  exact hK' _ _ hK
theorem owns_heap {w w' : World} {k : TypeId} {R : Value → Option (DataW H × List MemPlace)} {b n : Nat} {D : DataW H} (h : w.ownsMap P k R b n D) (e : w'.heap[b]? = w.heap[b]?) : w'.ownsMap P k R b n D := by
  obtain ⟨es, clock, hb, F, hs, hD⟩ := h
  exact ⟨es, clock, e.trans hb, F, hs, hD⟩
/-- A map of bools keyed by whole numbers that holds true just at the numbers told. -/
def Marks (D : DataW H) (ids : List Int) : Prop := IsMap D ∧ ∀ z, D.atKey (.int .i64 z) (.lit (.bool false)) = .lit (.bool (ids.contains z))
theorem marks_empty : Marks (.map [] : DataW H) [] := ⟨isMap_empty, fun _ => rfl⟩
theorem marks_put {D : DataW H} {ids : List Int} (h : Marks D ids) (z : Int) : Marks (D.put (.int .i64 z) (.lit (.bool true))) (z :: ids) := by
  refine ⟨h.1.put _ _, fun y => ?_⟩
  by_cases e : y = z
  · subst e
    rw [atKey_put_same h.1 (by trivial)]
    simp
  · rw [atKey_put_other (by simpa using e), h.2 y]
    simp [e]
end
end Go.Proofs.YtnlnojolodnheaaX
