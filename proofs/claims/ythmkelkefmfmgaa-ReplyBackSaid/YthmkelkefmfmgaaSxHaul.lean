/- The program's data. -/
import Derived.Test.YthmkelkefmfmgaaSxOwn
import Derived.Laws.StructEq
set_option linter.unusedVariables false
namespace Go.SX
open Go
/-- A visit. -/
structure Vis where
  kind : Int
  item : Int
  deriving DecidableEq, Inhabited
def eVis : Enc Vis where
  sz := 2
  enc x := [.int .i64 x.kind, .int .i64 x.item]
  len _ := rfl
  one x u hu := by simp at hu; rcases hu with rfl | rfl <;> rfl
  pos := by decide
end Go.SX
namespace Go.SX
theorem take_gt {α : Type} [Inhabited α] {l : List α} {i : Int} (h0 : 0 ≤ i) (h1 : i < (l.length : Int)) : l.take (i + 1).toNat = l.take i.toNat ++ [gt l i] := by
  have hi : i.toNat < l.length := by omega
  rw [show (i + 1).toNat = i.toNat + 1 from by omega, List.take_succ_eq_append_getElem hi]
  simp [gt, List.getD_eq_getElem?_getD, hi]
theorem vis_ext {x y : Vis} (h1 : x.kind = y.kind) (h2 : x.item = y.item) : x = y := by cases x; cases y; simp_all
theorem same_len {l m : List Vis} (h : l.length ≠ m.length) : false = decide (l = m) := by
  symm; rw [decide_eq_false_iff_not]; rintro rfl; exact h rfl
theorem same_next {l m : List Vis} {i : Int} (h0 : 0 ≤ i) (h1 : i < (l.length : Int)) (h2 : i < (m.length : Int)) (h : l.take i.toNat = m.take i.toNat) (h3 : ¬¬((gt l i).kind = (gt m i).kind ∧ (gt l i).item = (gt m i).item)) : l.take (i + 1).toNat = m.take (i + 1).toNat := by
  have h3 := Classical.not_not.1 h3
  rw [take_gt h0 h1, take_gt h0 h2, h, vis_ext h3.1 h3.2]
theorem same_end {l m : List Vis} {i : Int} (h1 : ¬ i < (l.length : Int)) (h2 : l.length = m.length) (h : l.take i.toNat = m.take i.toNat) : true = decide (l = m) := by
  symm; rw [decide_eq_true_iff]
  rwa [List.take_of_length_le (by omega), List.take_of_length_le (by omega)] at h
theorem same_no {l m : List Vis} {i : Int} (h0 : 0 ≤ i) (h1 : i < (l.length : Int)) (h2 : i < (m.length : Int)) (h3 : ¬((gt l i).kind = (gt m i).kind ∧ (gt l i).item = (gt m i).item)) : false = decide (l = m) := by
  symm; rw [decide_eq_false_iff_not]; rintro rfl; exact h3 ⟨rfl, rfl⟩
end Go.SX
namespace Go.SX
theorem clone_nil {α : Type} {E : Enc α} {S : Nat → Prop} {wf : World} {A : Option Addr} {l : List α} (h : Fr E S wf A l) (hA : A.isNone = true) : l = [] := by
  rcases h.2 with h | ⟨b, off, rfl, _⟩
  · exact h
  · cases hA
end Go.SX
