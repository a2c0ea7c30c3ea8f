/- A walk by small steps, part 8: functions as values. My own text. -/
import Derived.Test.YtchmjpdkonfifaaDoorSxg
set_option linter.unusedVariables false
set_option linter.unusedSimpArgs false
namespace Go.Sx
open Go.RowKit
section
variable {P : Program} {n : Nat} {env : Env} {w : World} {dst : Option Nat} {ty : TypeId} {pos : String} {aft : Array Edge} {g : Option (Nat × Bool)}
/-- What a call of a function value comes to. -/
def CallV (P : Program) (v : Value) (w : World) (vs : List Value) (R : Value → World → Prop) : Prop :=
  ∃ f fn, ∃ first cap : List Value, v = .func (.func f) first.toArray cap.toArray ∧ P.funcs[f]? = some fn ∧ (fn.name == "runtime.NumGoroutine") = false ∧ fn.body.isNone = false ∧ Gives P f (first ++ vs ++ cap).toArray w R
theorem CallV.mono {v : Value} {vs : List Value} {R R' : Value → World → Prop} (h : CallV P v w vs R) (k : ∀ u w', R u w' → R' u w') : CallV P v w vs R' := by
  obtain ⟨f, fn, first, cap, h1, h2, h3, h4, h5⟩ := h
  exact ⟨f, fn, first, cap, h1, h2, h3, h4, h5.mono k⟩
theorem Ac.callv {x : Operand} {v : Value} {args : List Operand} {vs : List Value} {ts : Array TypeId} {R : Value → World → Prop} (hx : ev env x = some v) (hv : evs env args = some vs) (h : CallV P v w vs R) :
    Ac P n env (Oper.mk dst (.call { callee := .value x, args := args.toArray, argTypes := ts }) ty pos aft g) w R := by
  obtain ⟨f, fn, first, cap, rfl, hf, hnm, hb, hc⟩ := h
  intro a ha K Q hK
  have h1 := ha.evals hv
  have h0 := ha.eval hx
  have e1 : args.toArray.map a.eval = vs.toArray := by apply Array.toList_inj.1; simpa using h1
  have hr : (execOp a.eval (Oper.mk dst (.call { callee := .value x, args := args.toArray, argTypes := ts }) ty pos aft g)).run P w = .ok (.enter f (first ++ vs ++ cap).toArray) w := by
    simp only [execOp, resolve, e1, h0, Deferred.ofValue, Sem.run_bind, Sem.run_pure, Result.andThen_ok, invoke, callFunc, run_program, hf, hnm, hb, Bool.false_eq_true, if_false]
    simp
  unfold Oper.wp
  rw [hr, Oper.upon_enter]
  exact Calls.mono (Gives.calls hc) fun e w' ⟨v, he, r⟩ => by subst he; exact hK v w' r
end
end Go.Sx
