/- What the changes between two lists do, as functions of lists. -/
import Derived.Test.YtfmfhkaimhmgdaaSxRes
set_option linter.unusedVariables false
namespace Go.SX
open Go
def relOk (m j k L : Int) : Prop := 0 ≤ j ∧ j ≤ m ∧ (L = 2 → j < k ∧ k ≤ m + 1)
instance (m j k L : Int) : Decidable (relOk m j k L) := by unfold relOk; infer_instance
def relH (a b : List Vis) (j k : Int) (is : Bool) (L : List Vis) (q : List Vis × Bool) : Bool × List Vis × List Vis :=
  if is = true ∧ q.2 = true then
    if relOk b.length j k L.length then (true, q.1, if (L.length : Int) = 2 then insL (insL b j [gt L 0]) k [gt L 1] else insL b j [gt L 0]) else (false, a, b)
  else (false, a, b)
def relG (a b : List Vis) (j k : Int) (t : Bool × Int × Bool) : Bool × List Vis × List Vis := relH a b j k t.2.2 (visF t.1 t.2.1) (takeG a (visF t.1 t.2.1))
def relF (a b : List Vis) (i j k : Int) : Bool × List Vis × List Vis := if 0 ≤ i ∧ i < a.length then relG a b j k (ofF (gt a i).kind (gt a i).item) else (false, a, b)
theorem rel_ {a b : List Vis} {i j k : Int} {s is whole : Bool} {y : Int} {L X : List Vis} {z : Bool × List Vis × List Vis} (h0 : 0 ≤ i) (h1 : i < a.length) (h2 : (s, y, is) = ofF (gt a i).kind (gt a i).item) (h3 : L = visF s y) (h4 : (X, whole) = takeG a L) (h : z = relH a b j k is L (X, whole)) : z = relF a b i j k := by
  unfold relF relG
  rw [if_pos ⟨h0, h1⟩, ← h2]
  show z = relH a b j k is (visF s y) (takeG a (visF s y))
  rw [← h3, ← h4]; exact h
theorem rel_no {a b : List Vis} {i j k : Int} (h : ¬ (0 ≤ i ∧ i < (a.length : Int))) : (false, a, b) = relF a b i j k := by unfold relF; rw [if_neg h]
theorem visF_len {s : Bool} {y : Int} {L : List Vis} (h : L = visF s y) : 1 ≤ L.length ∧ L.length ≤ 2 := by
  subst h; unfold visF; cases s <;> simp
theorem take_len {l s X : List Vis} {r : Bool} (h : (X, r) = takeG l s) : X.length ≤ l.length := by
  induction s generalizing l with
  | nil => rw [takeG] at h; injection h with e _; rw [e]; exact Nat.le_refl _
  | cons v s ih =>
    rw [takeG] at h
    split at h
    · injection h with e _; rw [e]; simp
    · have h1 := ih h
      have h2 := (idx_lt (l := l) (v := v))
      simp only [List.length_append, List.length_take, List.length_drop] at h1
      omega
end Go.SX
namespace Go.SX
def ex2Ok (n m i j : Int) : Prop := 0 ≤ i ∧ i < n ∧ 0 ≤ j ∧ j < m
instance (n m i j : Int) : Decidable (ex2Ok n m i j) := by unfold ex2Ok; infer_instance
def ex2F (a b : List Vis) (i j : Int) : Bool × List Vis × List Vis := if ex2Ok a.length b.length i j then (true, a.set i.toNat (gt b j), b.set j.toNat (gt a i)) else (false, a, b)
def crossF (a b : List Vis) (i j : Int) : Bool × List Vis × List Vis := if ex2Ok (a.length - 1) (b.length - 1) i j then (true, (a.set i.toNat (gt b j)).set (i + 1).toNat (gt (b.set j.toNat (gt a i)) (j + 1)), (b.set j.toNat (gt a i)).set (j + 1).toNat (gt (a.set i.toNat (gt b j)) (i + 1))) else (false, a, b)
theorem ex2_at {a b p q : List Vis} {i j : Int} {r : Bool} (h : (r, p, q) = ex2F a b i j) (h0 : ex2Ok a.length b.length i j) : r = true ∧ p = a.set i.toNat (gt b j) ∧ q = b.set j.toNat (gt a i) := by
  unfold ex2F at h
  rw [if_pos h0] at h
  injection h with h1 h2
  injection h2 with h2 h3
  exact ⟨h1, h2, h3⟩
end Go.SX
