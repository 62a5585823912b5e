/- What the changes within one list do, as functions of lists. -/
import Derived.Test.YthmkelkefmfmgaaSxVis
set_option linter.unusedVariables false
namespace Go.SX
open Go
def delL {α : Type} (l : List α) (i j : Int) : List α := l.take i.toNat ++ l.drop j.toNat
def repL {α : Type} (l : List α) (i j : Int) (v : List α) : List α := l.take i.toNat ++ v ++ l.drop j.toNat
def insL {α : Type} (l : List α) (i : Int) (v : List α) : List α := repL l i i v
def mixA (l : List Vis) (i j : Int) : List Vis := repL (insL (delL l j (j + 2)) j [gt l i]) i (i + 1) [gt l j, gt l (j + 1)]
def mixB (l : List Vis) (i j : Int) : List Vis := repL (repL l i (i + 1) [gt l j, gt l (j + 1)]) j (j + 2) [gt l i]
def mixOk (n i j : Int) : Prop := 0 ≤ i ∧ i < n ∧ 0 ≤ j ∧ j + 1 < n ∧ i ≠ j ∧ i ≠ j + 1
instance (n i j : Int) : Decidable (mixOk n i j) := by unfold mixOk; infer_instance
def mixedF (l : List Vis) (i j : Int) : Bool × List Vis := if mixOk l.length i j then (true, if i < j then mixA l i j else mixB l i j) else (false, l)
def orOk (n i j k : Int) : Prop := 1 ≤ k ∧ k ≤ 3 ∧ 0 ≤ i ∧ i < n ∧ k ≤ n - i ∧ 0 ≤ j ∧ j ≤ n - k ∧ i ≠ j
instance (n i j k : Int) : Decidable (orOk n i j k) := by unfold orOk; infer_instance
def oroptF (l : List Vis) (i j k : Int) : Bool × List Vis := if orOk l.length i j k then (true, insL (delL l i (i + k)) j ((l.take (i + k).toNat).drop i.toNat)) else (false, l)
def twoOk (n i j : Int) : Prop := 0 ≤ i ∧ i < j ∧ j < n
instance (n i j : Int) : Decidable (twoOk n i j) := by unfold twoOk; infer_instance
def twooptF (l : List Vis) (i j : Int) : Bool × List Vis := if twoOk l.length i j then (true, repL l i (j + 1) ((l.take (j + 1).toNat).drop i.toNat).reverse) else (false, l)
def exchF (l : List Vis) (i j : Int) : Bool × List Vis := if twoOk l.length i j then (true, (l.set i.toNat (gt l j)).set j.toNat (gt l i)) else (false, l)
end Go.SX
namespace Go.SX
section
variable {α : Type} {l a v b : List α} {i j : Nat}
theorem mid_take (h : a.length = i) : (a ++ v ++ b).take i = a := by rw [List.append_assoc]; exact List.take_left' h
theorem mid_drop (h : a.length = i) (hj : i + v.length = j) : (a ++ v ++ b).drop j = b := List.drop_left' (by rw [List.length_append]; omega)
theorem mid_part (h : a.length = i) (hj : i + v.length = j) : ((a ++ v ++ b).take j).drop i = v := by
  rw [show (a ++ v ++ b).take j = a ++ v from List.take_left' (by rw [List.length_append]; omega)]
  exact List.drop_left' h
theorem three (hij : i ≤ j) (hj : j ≤ l.length) : l.take i ++ (l.take j).drop i ++ l.drop j = l := by
  have h1 : l.take i ++ (l.take j).drop i = l.take j := by
    conv => rhs; rw [← List.take_append_drop i (l.take j)]
    rw [List.take_take, Nat.min_eq_left hij]
  rw [h1, List.take_append_drop]
end
theorem two_back {l m1 m2 : List Vis} {i j : Int} {r1 r2 : Bool} (h1 : (r1, m1) = twooptF l i j) (h2 : (r2, m2) = twooptF m1 i j) : r2 = r1 ∧ m2 = l := by
  unfold twooptF at h1 h2
  by_cases ok : twoOk l.length i j
  · rw [if_pos ok] at h1
    injection h1 with e1 e2
    subst e1 e2
    obtain ⟨k0, k1, k2⟩ := ok
    have hp : ((l.take (j + 1).toNat).drop i.toNat).reverse.length = (j + 1).toNat - i.toNat := by simp; omega
    have ha : (l.take i.toNat).length = i.toNat := by rw [List.length_take]; omega
    have hl : (repL l i (j + 1) ((l.take (j + 1).toNat).drop i.toNat).reverse).length = l.length := by unfold repL; simp only [List.length_append, hp, ha, List.length_drop]; omega
    rw [if_pos (by rw [hl]; exact ⟨k0, k1, k2⟩)] at h2
    injection h2 with e1 e2
    refine ⟨e1, e2.trans ?_⟩
    have hj : i.toNat + ((l.take (j + 1).toNat).drop i.toNat).reverse.length = (j + 1).toNat := by rw [hp]; omega
    unfold repL
    rw [mid_take ha, mid_drop ha hj, mid_part ha hj, List.reverse_reverse]
    exact three (by omega) (by omega)
  · rw [if_neg ok] at h1
    injection h1 with e1 e2
    subst e1 e2
    rw [if_neg ok] at h2
    injection h2 with e1 e2
    exact ⟨e1, e2⟩
theorem ex_back {l m1 m2 : List Vis} {i j : Int} {r1 r2 : Bool} (h1 : (r1, m1) = exchF l i j) (h2 : (r2, m2) = exchF m1 i j) : r2 = r1 ∧ m2 = l := by
  unfold exchF at h1 h2
  by_cases ok : twoOk l.length i j
  · rw [if_pos ok] at h1
    injection h1 with e1 e2
    subst e1 e2
    rw [if_pos (by simpa using ok)] at h2
    obtain ⟨k0, k1, k2⟩ := ok
    injection h2 with e1 e2
    refine ⟨e1, e2.trans ?_⟩
    have gi : l[i.toNat]? = some (gt l i) := gt_at k0 (by omega)
    have gj : l[j.toNat]? = some (gt l j) := gt_at (by omega) (by omega)
    have hne : i.toNat ≠ j.toNat := by omega
    have a1 : gt ((l.set i.toNat (gt l j)).set j.toNat (gt l i)) j = gt l i := by
      have hlt : j.toNat < l.length := by omega
      unfold gt; rw [List.getD_eq_getElem?_getD, List.getElem?_set_self (by simpa using hlt)]; rfl
    have a2 : gt ((l.set i.toNat (gt l j)).set j.toNat (gt l i)) i = gt l j := by
      have hlt : i.toNat < l.length := by omega
      have : ((l.set i.toNat (gt l j)).set j.toNat (gt l i))[i.toNat]? = some (gt l j) := by
        rw [List.getElem?_set_ne (by omega), List.getElem?_set_self hlt]
      unfold gt at this ⊢; rw [List.getD_eq_getElem?_getD, this]; rfl
    rw [a1, a2]
    refine List.ext_getElem? fun k => ?_
    by_cases hj : j.toNat = k
    · subst hj
      rw [List.getElem?_set_self (by simp; omega), gj]
    · rw [List.getElem?_set_ne hj]
      by_cases hi : i.toNat = k
      · subst hi
        rw [List.getElem?_set_self (by simp; omega), gi]
      · rw [List.getElem?_set_ne hi, List.getElem?_set_ne hj, List.getElem?_set_ne hi]
  · rw [if_neg ok] at h1
    injection h1 with e1 e2
    subst e1 e2
    rw [if_neg ok] at h2
    injection h2 with e1 e2
    exact ⟨e1, e2⟩
theorem or_back {l m1 m2 : List Vis} {i j k : Int} {r1 r2 : Bool} (h1 : (r1, m1) = oroptF l i j k) (h2 : (r2, m2) = oroptF m1 j i k) : r2 = r1 ∧ m2 = l := by
  unfold oroptF at h1 h2
  by_cases ok : orOk l.length i j k
  · rw [if_pos ok] at h1
    injection h1 with e1 e2
    subst e1 e2
    obtain ⟨k0, k1, k2, k3, k4, k5, k6, k7⟩ := ok
    have hB : ((l.take (i + k).toNat).drop i.toNat).length = k.toNat := by simp; omega
    have hD : (delL l i (i + k)).length = l.length - k.toNat := by unfold delL; simp; omega
    have ha : ((delL l i (i + k)).take j.toNat).length = j.toNat := by rw [List.length_take, hD]; omega
    have hl : (insL (delL l i (i + k)) j ((l.take (i + k).toNat).drop i.toNat)).length = l.length := by unfold insL repL; simp only [List.length_append, hB, ha, List.length_drop, hD]; omega
    rw [if_pos (by rw [hl]; unfold orOk; omega)] at h2
    injection h2 with e1 e2
    refine ⟨e1, e2.trans ?_⟩
    have hj : j.toNat + ((l.take (i + k).toNat).drop i.toNat).length = (j + k).toNat := by rw [hB]; omega
    have eB : ((insL (delL l i (i + k)) j ((l.take (i + k).toNat).drop i.toNat)).take (j + k).toNat).drop j.toNat = (l.take (i + k).toNat).drop i.toNat := by
      unfold insL repL; exact mid_part ha hj
    have eD : ∀ D : List Vis, (D.take j.toNat).length = j.toNat → delL (insL D j ((l.take (i + k).toNat).drop i.toNat)) j (j + k) = D := by
      intro D ha
      unfold delL insL repL
      rw [mid_take ha, mid_drop ha hj, List.take_append_drop]
    rw [eB, eD _ ha]
    have hi : (l.take i.toNat).length = i.toNat := by rw [List.length_take]; omega
    unfold insL repL delL
    rw [List.take_left' hi, List.drop_left' hi]
    exact three (by omega) (by omega)
  · rw [if_neg ok] at h1
    injection h1 with e1 e2
    subst e1 e2
    rw [if_neg (by unfold orOk at *; omega)] at h2
    injection h2 with e1 e2
    exact ⟨e1, e2⟩
end Go.SX
namespace Go.SX
theorem two_len {l m : List Vis} {i j : Int} {r : Bool} (h : (r, m) = twooptF l i j) : m.length = l.length := by
  unfold twooptF at h
  by_cases ok : twoOk l.length i j
  · rw [if_pos ok] at h
    injection h with _ e
    obtain ⟨k0, k1, k2⟩ := ok
    rw [e]; unfold repL
    simp only [List.length_append, List.length_take, List.length_drop, List.length_reverse]; omega
  · rw [if_neg ok] at h
    injection h with _ e
    rw [e]
theorem ex_len {l m : List Vis} {i j : Int} {r : Bool} (h : (r, m) = exchF l i j) : m.length = l.length := by
  unfold exchF at h
  by_cases ok : twoOk l.length i j
  · rw [if_pos ok] at h
    injection h with _ e
    rw [e]; simp
  · rw [if_neg ok] at h
    injection h with _ e
    rw [e]
theorem or_len {l m : List Vis} {i j k : Int} {r : Bool} (h : (r, m) = oroptF l i j k) : m.length = l.length := by
  unfold oroptF at h
  by_cases ok : orOk l.length i j k
  · rw [if_pos ok] at h
    injection h with _ e
    obtain ⟨k0, k1, k2, k3, k4, k5, k6, k7⟩ := ok
    rw [e]; unfold insL repL delL
    simp only [List.length_append, List.length_take, List.length_drop]; omega
  · rw [if_neg ok] at h
    injection h with _ e
    rw [e]
end Go.SX
namespace Go.SX
/-- Where a visit stands first; -1: nowhere. -/
def idxV (l : List Vis) (v : Vis) : Int := if v ∈ l then (l.idxOf v : Int) else -1
theorem idx_none {l : List Vis} {v : Vis} {i : Int} (h : v ∉ l.take i.toNat) (h1 : ¬ i < (l.length : Int)) : (-1 : Int) = idxV l v := by
  rw [List.take_of_length_le (by omega)] at h
  unfold idxV; rw [if_neg h]
theorem idx_at {l : List Vis} {v : Vis} {i : Int} (h : v ∉ l.take i.toNat) (h0 : 0 ≤ i) (h1 : i < (l.length : Int)) (he : v.kind = (gt l i).kind ∧ v.item = (gt l i).item) : i = idxV l v := by
  have hv : v = gt l i := vis_ext he.1 he.2
  have hi : i.toNat < l.length := by omega
  have hg : gt l i = l[i.toNat] := by simp [gt, List.getD_eq_getElem?_getD, hi]
  have hm : v ∈ l := by rw [hv, hg]; exact List.getElem_mem hi
  unfold idxV
  rw [if_pos hm]
  have h2 : l = l.take i.toNat ++ l[i.toNat] :: l.drop (i.toNat + 1) := by rw [← List.drop_eq_getElem_cons hi, List.take_append_drop]
  have h3 : l.idxOf v = i.toNat := by
    conv => lhs; rw [h2]
    rw [List.idxOf_append, if_neg h, ← hg, ← hv]
    simp; omega
  omega
theorem idx_next {l : List Vis} {v : Vis} {i : Int} (h : v ∉ l.take i.toNat) (h0 : 0 ≤ i) (h1 : i < (l.length : Int)) (he : ¬ (v.kind = (gt l i).kind ∧ v.item = (gt l i).item)) : v ∉ l.take (i + 1).toNat := by
  rw [take_gt h0 h1]
  simp only [List.mem_append, List.mem_singleton, not_or]
  exact ⟨h, fun e => he (by rw [e]; exact ⟨rfl, rfl⟩)⟩
theorem idx_lt {l : List Vis} {v : Vis} : -1 ≤ idxV l v ∧ idxV l v < (l.length : Int) ∧ (0 ≤ idxV l v ↔ v ∈ l) := by
  unfold idxV
  by_cases h : v ∈ l
  · rw [if_pos h]
    have := List.idxOf_lt_length_of_mem h
    exact ⟨by omega, by omega, by simp [h]⟩
  · rw [if_neg h]
    exact ⟨by omega, by omega, by simp [h]⟩
/-- The task of a visit. -/
def ofF (k x : Int) : Bool × Int × Bool := if k = 1 then (false, x, true) else if k = 2 ∨ k = 3 then (true, x, true) else (false, 0, false)
/-- A task's visits. -/
def visF (s : Bool) (x : Int) : List Vis := if s = true then [⟨2, x⟩, ⟨3, x⟩] else [⟨1, x⟩]
/-- A list without some visits, each of which stands there just once. -/
def takeG : List Vis → List Vis → List Vis × Bool
  | l, [] => (l, true)
  | l, v :: r => if idxV l v < 0 ∨ v ∈ l.drop (idxV l v + 1).toNat then ([], false) else takeG (l.take (idxV l v).toNat ++ l.drop (idxV l v + 1).toNat) r
theorem tk_drop {s : List Vis} {x : Int} (h0 : 0 ≤ x) (h1 : x < (s.length : Int)) : s.drop x.toNat = gt s x :: s.drop (x + 1).toNat := by
  have hx : x.toNat < s.length := by omega
  have hg : gt s x = s[x.toNat] := by simp [gt, List.getD_eq_getElem?_getD, hx]
  rw [hg, show (x + 1).toNat = x.toNat + 1 from by omega, ← List.drop_eq_getElem_cons hx]
theorem tk_no {l s X : List Vis} {x : Int} (h : takeG X (s.drop x.toNat) = takeG l s) (h0 : 0 ≤ x) (h1 : x < (s.length : Int)) (hc : idxV X (gt s x) < 0 ∨ gt s x ∈ (X.take X.length).drop (idxV X (gt s x) + 1).toNat) : ([], false) = takeG l s := by
  rw [List.take_length] at hc
  rw [← h, tk_drop h0 h1, takeG, if_pos hc]
theorem tk_next {l s X : List Vis} {x : Int} (h : takeG X (s.drop x.toNat) = takeG l s) (h0 : 0 ≤ x) (h1 : x < (s.length : Int)) (hc : ¬ (idxV X (gt s x) < 0 ∨ gt s x ∈ (X.take X.length).drop (idxV X (gt s x) + 1).toNat)) :
    takeG (X.take (idxV X (gt s x)).toNat ++ X.drop (idxV X (gt s x) + 1).toNat) (s.drop (x + 1).toNat) = takeG l s := by
  rw [List.take_length] at hc
  rw [← h, tk_drop h0 h1, takeG, if_neg hc]
theorem tk_end {l s X : List Vis} {x : Int} (h : takeG X (s.drop x.toNat) = takeG l s) (h1 : ¬ x < (s.length : Int)) : (X, true) = takeG l s := by
  rw [← h, List.drop_of_length_le (by omega), takeG]
end Go.SX
