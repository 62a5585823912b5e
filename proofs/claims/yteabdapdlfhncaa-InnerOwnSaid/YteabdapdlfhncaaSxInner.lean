/- What the changes within one list do, as functions of lists. -/
import Derived.Test.YteabdapdlfhncaaSxVis
set_option linter.unusedVariables false
namespace Go.SX
open Go
def delL {α : Type} (l : List α) (i j : Int) : List α := l.take i.toNat ++ l.drop j.toNat
def repL {α : Type} (l : List α) (i j : Int) (v : List α) : List α := l.take i.toNat ++ v ++ l.drop j.toNat
def insL {α : Type} (l : List α) (i : Int) (v : List α) : List α := repL l i i v
def mixA (l : List Vis) (i j : Int) : List Vis := repL (insL (delL l j (j + 2)) j [gt l i]) i (i + 1) [gt l j, gt l (j + 1)]
def mixB (l : List Vis) (i j : Int) : List Vis := repL (repL l i (i + 1) [gt l j, gt l (j + 1)]) j (j + 2) [gt l i]
def mixOk (n i j : Int) : Prop := 0 ≤ i ∧ i < n ∧ 0 ≤ j ∧ j + 1 < n ∧ i ≠ j ∧ i ≠ j + 1
instance (n i j : Int) : Decidable (mixOk n i j) := by unfold mixOk; infer_instance
def mixedF (l : List Vis) (i j : Int) : Bool × List Vis := if mixOk l.length i j then (true, if i < j then mixA l i j else mixB l i j) else (false, l)
def orOk (n i j k : Int) : Prop := 1 ≤ k ∧ k ≤ 3 ∧ 0 ≤ i ∧ i < n ∧ k ≤ n - i ∧ 0 ≤ j ∧ j ≤ n - k ∧ i ≠ j
instance (n i j k : Int) : Decidable (orOk n i j k) := by unfold orOk; infer_instance
def oroptF (l : List Vis) (i j k : Int) : Bool × List Vis := if orOk l.length i j k then (true, insL (delL l i (i + k)) j ((l.take (i + k).toNat).drop i.toNat)) else (false, l)
def twoOk (n i j : Int) : Prop := 0 ≤ i ∧ i < j ∧ j < n
instance (n i j : Int) : Decidable (twoOk n i j) := by unfold twoOk; infer_instance
def twooptF (l : List Vis) (i j : Int) : Bool × List Vis := if twoOk l.length i j then (true, repL l i (j + 1) ((l.take (j + 1).toNat).drop i.toNat).reverse) else (false, l)
def exchF (l : List Vis) (i j : Int) : Bool × List Vis := if twoOk l.length i j then (true, (l.set i.toNat (gt l j)).set j.toNat (gt l i)) else (false, l)
end Go.SX
