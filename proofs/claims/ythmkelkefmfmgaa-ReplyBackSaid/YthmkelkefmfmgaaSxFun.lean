/- Calls of function values. -/
import Derived.Test.YthmkelkefmfmgaaSxArgs
set_option linter.unusedVariables false
set_option linter.unusedSimpArgs false
namespace Go.SX
open Go Go.RowKit
section
variable {V : Env} {P : Program} {Q : Exit → Act → World → Prop} {ops : Array Oper} {N : Nat} {o : Oper} {rest : List Oper} {L : List (Nat × Value)} {H R : List Res} {S : Nat → Prop} {wf : World} {K : St → Prop} {st : St} {C : World → Prop}
/-- The same call, its function named. -/
def named (o : Oper) (f : FuncId) (args : Array Operand) (ts : Array TypeId) : Oper := { o with op := .call { callee := .value (.func f), args := args, argTypes := ts } }
theorem OpStep.viafun {x : Operand} {f : FuncId} {args : Array Operand} {ts : Array TypeId} (ho : o.op = .call { callee := .value x, args := args, argTypes := ts }) (hx : lk st.L x = some (.func (.func f) #[] #[]))
    (h : OpStep V P Q ops N (named o f args ts) st K) : OpStep V P Q ops N o st K := by
  intro a w hs hw J hJ
  have h1 := h a w hs hw J hJ
  have he : a.eval x = .func (.func f) #[] #[] := hs.eval hx
  have hf : a.eval (.func f) = .func (.func f) #[] #[] := rfl
  have hop : execOp a.eval o = execOp a.eval (named o f args ts) := by
    simp only [execOp, ho, named, resolve, he, hf]
  unfold Step1 at h1 ⊢
  have hwt : Region.wanted (named o f args ts) (yielded ops a.tmps) = Region.wanted o (yielded ops a.tmps) := rfl
  have hwp : (named o f args ts).wp P a w J Q = o.wp P a w J Q := by
    unfold Oper.wp; rw [hop]; rfl
  have has : (named o f args ts).asks P a w = o.asks P a w := by
    unfold Oper.asks; rw [hop]
  rw [hwt, hwp, has] at h1
  exact h1
end
end Go.SX
namespace Go.SX
open Go Go.RowKit
section
variable {V : Env} {P : Program} {Q : Exit → Act → World → Prop} {ops : Array Oper} {N : Nat} {o : Oper} {rest : List Oper} {L : List (Nat × Value)} {H R : List Res} {S : Nat → Prop} {wf : World} {K : St → Prop} {st : St} {C : World → Prop}
theorem eval_consts {a : Act} (cs : Array Value) : (cs.map Operand.const).map a.eval = cs := by
  rw [Array.map_map]
  have : (a.eval ∘ Operand.const) = id := by funext v; rfl
  rw [this, Array.map_id]
/-- A call of a closure: the captured values stand behind the arguments. -/
theorem OpStep.viacap {x : Operand} {f : FuncId} {caps : Array Value} {args args' : Array Operand} {ts : Array TypeId} (ho : o.op = .call { callee := .value x, args := args, argTypes := ts }) (hx : lk st.L x = some (.func (.func f) #[] caps)) (ha : args' = args ++ caps.map Operand.const)
    (hb : hasBody P f = true) (h : OpStep V P Q ops N (named o f args' ts) st K) : OpStep V P Q ops N o st K := by
  intro a w hs hw J hJ
  have h1 := h a w hs hw J hJ
  have he : a.eval x = .func (.func f) #[] caps := hs.eval hx
  have hf : a.eval (.func f) = .func (.func f) #[] #[] := rfl
  have hop : execOp a.eval o = execOp a.eval (named o f args' ts) := by
    subst ha
    simp only [execOp, ho, named, resolve, he, hf, Deferred.ofValue, invoke, Array.map_append, eval_consts]
    simp
  unfold Step1 at h1 ⊢
  have hwt : Region.wanted (named o f args' ts) (yielded ops a.tmps) = Region.wanted o (yielded ops a.tmps) := rfl
  have hwp : (named o f args' ts).wp P a w J Q = o.wp P a w J Q := by
    unfold Oper.wp; rw [hop]; rfl
  have has : (named o f args' ts).asks P a w = o.asks P a w := by
    unfold Oper.asks; rw [hop]
  rw [hwt, hwp, has] at h1
  exact h1
end
end Go.SX
namespace Go.SX
theorem gt_mem {α : Type} [Inhabited α] {l : List α} {i : Int} (h0 : 0 ≤ i) (h1 : i < (l.length : Int)) : gt l i ∈ l := List.mem_of_getElem? (gt_at h0 h1)
end Go.SX
