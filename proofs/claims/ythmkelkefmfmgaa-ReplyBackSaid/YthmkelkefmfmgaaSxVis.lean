/- What the slices' functions leave: laws on lists of cells. -/
import Derived.Test.YthmkelkefmfmgaaSxPut
import Derived.Test.YthmkelkefmfmgaaSxHaul
set_option linter.unusedVariables false
namespace Go.SX
open Go
theorem fl_eVis (l : List Vis) : (flat eVis l).length = l.length * 2 := flat_length eVis l

theorem pre_put {T cs X : List Value} {p : Nat} (h : T.take p = X) (hp : p ≤ T.length) : (put T p cs).take (p + cs.length) = X ++ cs := by rw [put_take' hp, h]
theorem pre_keep {T cs X : List Value} {p k : Nat} (h : T.take k = X) (hk : k ≤ p) (hp : p ≤ T.length) : (put T p cs).take k = X := by rw [put_take hk hp, h]
theorem pre_two {T U W X : List Value} {p q : Nat} (h : T.take p = X) (hp : p ≤ T.length) (hq : p + U.length = q) (hql : q ≤ T.length) (hw : q + W.length ≤ T.length) : (put (put T q W) p U).take (q + W.length) = X ++ U ++ W := by
  have h1 : (put T q W).length = T.length := put_length hw
  have hX : X.length = p := by rw [← h, List.length_take]; omega
  rw [show put (put T q W) p U = X ++ U ++ (put T q W).drop q from by rw [put, hq, put_take (by omega) hql, h], put_drop hql]
  have : (X ++ U ++ W).length = q + W.length := by simp [hX]; omega
  rw [show X ++ U ++ (W ++ T.drop (q + W.length)) = (X ++ U ++ W) ++ T.drop (q + W.length) from by simp]
  rw [← this]; exact List.take_left

section
variable {α : Type} {E : Enc α} {l v : List α} {T T1 T2 T3 G zs sp : List Value} {i j : Nat}
theorem put_at {cs : List Value} {p q : Nat} (h : T1 = put T p cs) (hp : p = q) : T1 = put T q cs := hp ▸ h
theorem flat3 (i j : Nat) : flat E (l.take i ++ v ++ l.drop j) = flat E (l.take i) ++ flat E v ++ flat E (l.drop j) := by rw [flat_append, flat_append]
theorem len3 (hi : i ≤ l.length) : (l.take i ++ v ++ l.drop j).length = i + v.length + (l.length - j) := by simp; omega

theorem del_law (hT : T.take (l.length * E.sz) = flat E l) (hle : l.length * E.sz ≤ T.length) (h1 : T1 = put T (i * E.sz) (flat E (l.drop j))) (h2 : T2 = put T1 ((i + (l.length - j)) * E.sz) zs) (hi : i ≤ j) (hj : j ≤ l.length) :
    T2.take ((l.take i ++ l.drop j).length * E.sz) = flat E (l.take i ++ l.drop j) := by
  have hil : i * E.sz ≤ l.length * E.sz := Nat.mul_le_mul_right _ (by omega)
  have hnl : (i + (l.length - j)) * E.sz ≤ l.length * E.sz := Nat.mul_le_mul_right _ (by omega)
  have hf : (flat E (l.drop j)).length = (l.length - j) * E.sz := by rw [flat_length, List.length_drop]
  have e0 : T.take (i * E.sz) = flat E (l.take i) := head_flat hT rfl (by omega)
  have e1 := pre_put (cs := flat E (l.drop j)) e0 (by omega)
  rw [hf, ← Nat.add_mul, ← h1, ← flat_append] at e1
  have hl : T1.length = T.length := by rw [h1]; exact put_length (by rw [hf, ← Nat.add_mul]; omega)
  have e2 := pre_keep (cs := zs) e1 (Nat.le_refl _) (by omega)
  rw [← h2] at e2
  have hn : (l.take i ++ l.drop j).length = i + (l.length - j) := by simp; omega
  rw [hn]; exact e2

/-- The middle, then the rest. -/
theorem mid_rest (e0 : T.take (i * E.sz) = flat E (l.take i)) (hle : (i + v.length + (l.length - j)) * E.sz ≤ T.length) (h1 : T1 = put T (i * E.sz) (flat E v)) (h2 : T2 = put T1 ((i + v.length) * E.sz) (flat E (l.drop j))) (hi : i ≤ l.length) :
    T2.take ((l.take i ++ v ++ l.drop j).length * E.sz) = flat E (l.take i ++ v ++ l.drop j) := by
  have hf : (flat E (l.drop j)).length = (l.length - j) * E.sz := by rw [flat_length, List.length_drop]
  have hv := flat_length E v
  have hle' : i * E.sz + v.length * E.sz + (l.length - j) * E.sz ≤ T.length := by rw [← Nat.add_mul, ← Nat.add_mul]; exact hle
  have e1 := pre_put (cs := flat E v) e0 (by omega)
  rw [hv, ← Nat.add_mul, ← h1] at e1
  have hl : T1.length = T.length := by rw [h1]; exact put_length (by rw [hv]; omega)
  have e2 := pre_put (cs := flat E (l.drop j)) e1 (by rw [Nat.add_mul]; omega)
  rw [hf, ← Nat.add_mul, ← h2, ← flat3] at e2
  rw [len3 hi]; exact e2
/-- The rest, then the middle. -/
theorem rest_mid (e0 : T.take (i * E.sz) = flat E (l.take i)) (hle : (i + v.length + (l.length - j)) * E.sz ≤ T.length) (h1 : T1 = put T ((i + v.length) * E.sz) (flat E (l.drop j))) (h2 : T2 = put T1 (i * E.sz) (flat E v)) (hi : i ≤ l.length) :
    T2.take ((l.take i ++ v ++ l.drop j).length * E.sz) = flat E (l.take i ++ v ++ l.drop j) := by
  have hf : (flat E (l.drop j)).length = (l.length - j) * E.sz := by rw [flat_length, List.length_drop]
  have hv := flat_length E v
  have hle' : i * E.sz + v.length * E.sz + (l.length - j) * E.sz ≤ T.length := by rw [← Nat.add_mul, ← Nat.add_mul]; exact hle
  have e1 := pre_two (U := flat E v) (W := flat E (l.drop j)) (q := (i + v.length) * E.sz) e0 (by omega) (by rw [hv, Nat.add_mul]) (by rw [Nat.add_mul]; omega) (by rw [hf, Nat.add_mul]; omega)
  rw [← h1, ← h2, hf, ← Nat.add_mul, ← flat3] at e1
  rw [len3 hi]; exact e1
theorem then_clear {X : List Value} {n p : Nat} (h : T.take n = X) (h1 : T1 = put T p zs) (hn : n ≤ p) (hp : p ≤ T.length) : T1.take n = X := by rw [h1]; exact pre_keep h hn hp
theorem grown_head {p : Nat} (h1 : G = T.take p ++ sp) (hp : p ≤ T.length) {X : List Value} (h : T.take p = X) : G.take p = X := by
  have hl : (T.take p).length = p := by rw [List.length_take]; omega
  have : G.take p = T.take p := by rw [h1]; exact List.take_left' hl
  rw [this, h]
/-- A cut of what a put left alone. -/
theorem cut_put {X cs : List Value} {p q k : Nat} (h : T1 = put T p cs) (hp : p ≤ T.length) (hq : p + cs.length ≤ q) (hX : (T.drop q).take k = X) : (T1.drop q).take k = X := by rw [h, put_drop' hp hq]; exact hX
theorem rep_end (h : j = l.length) : l.take i ++ v = l.take i ++ v ++ l.drop j := by subst h; simp
/-- The middle at the end. -/
theorem mid_end (e0 : T.take (i * E.sz) = flat E (l.take i)) (hle : i * E.sz ≤ T.length) (h1 : T1 = put T (i * E.sz) (flat E v)) (hi : i ≤ l.length) (hj : j = l.length) :
    T1.take ((l.take i ++ v ++ l.drop j).length * E.sz) = flat E (l.take i ++ v ++ l.drop j) := by
  rw [← rep_end hj]
  have e1 := pre_put (cs := flat E v) e0 hle
  rw [flat_length, ← Nat.add_mul, ← h1, ← flat_append] at e1
  have hn : (l.take i ++ v).length = i + v.length := by simp; omega
  rw [hn]; exact e1
theorem win_cut (hij : i ≤ j) (hj : j ≤ l.length) : flat E l ++ sp = flat E (l.take i) ++ flat E ((l.take j).drop i) ++ (flat E (l.drop j) ++ sp) := by
  have h : l = l.take i ++ ((l.take j).drop i ++ l.drop j) := by
    rw [← List.append_assoc]
    conv => lhs; rw [← List.take_append_drop j l]
    congr 1
    conv => lhs; rw [← List.take_append_drop i (l.take j)]
    rw [List.take_take, Nat.min_eq_left hij]
  conv => lhs; rw [h]
  simp [flat_append]
theorem ins_end (h : i = l.length) : l ++ v = l.take i ++ v ++ l.drop i := by subst h; simp
end
end Go.SX
