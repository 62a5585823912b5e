/- DeleteFunc with two visits; a pair's change of place. -/
import Derived.Test.YteabdapdlfhncaaSxChg
import Derived.Test.YteabdapdlfhncaaSxFun
set_option linter.unusedVariables false
set_option linter.unusedSimpArgs false
namespace Go.SX
open Go
def hitV (u v x : Vis) : Bool := decide (x = u ∨ x = v)
def idxP (p : Vis → Bool) (l : List Vis) : Int := if l.any p = true then (l.findIdx p : Int) else -1
theorem hit_eq {k x k1 x1 k2 x2 : Int} : ((k == k1 && x == x1) || (k == k2 && x == x2)) = hitV ⟨k1, x1⟩ ⟨k2, x2⟩ ⟨k, x⟩ := by
  unfold hitV
  rw [Bool.eq_iff_iff]
  simp [Vis.mk.injEq]
theorem idxP_none {p : Vis → Bool} {l : List Vis} {i : Int} (h : (l.take i.toNat).any p = false) (h1 : ¬ i < (l.length : Int)) : (-1 : Int) = idxP p l := by
  rw [List.take_of_length_le (by omega)] at h
  unfold idxP; rw [if_neg (by simp [h])]
theorem idxP_next {p : Vis → Bool} {l : List Vis} {i : Int} (h : (l.take i.toNat).any p = false) (h0 : 0 ≤ i) (h1 : i < (l.length : Int)) (hp : ¬ p (gt l i) = true) : (l.take (i + 1).toNat).any p = false := by
  rw [take_gt h0 h1, List.any_append, h]; simpa using hp
theorem split_at {l : List Vis} {i : Int} (h0 : 0 ≤ i) (h1 : i < (l.length : Int)) : l = l.take i.toNat ++ gt l i :: l.drop (i + 1).toNat := by
  rw [← tk_drop h0 h1, List.take_append_drop]
theorem idxP_at {p : Vis → Bool} {l : List Vis} {i : Int} (h : (l.take i.toNat).any p = false) (h0 : 0 ≤ i) (h1 : i < (l.length : Int)) (hp : p (gt l i) = true) : i = idxP p l := by
  have hl : (l.take i.toNat).length = i.toNat := by rw [List.length_take]; omega
  unfold idxP
  rw [split_at h0 h1, if_pos (by simp [hp]), List.findIdx_append]
  have hn : ¬ (l.take i.toNat).findIdx p < (l.take i.toNat).length := by
    rw [List.findIdx_lt_length]
    rintro ⟨x, hx, hpx⟩
    rw [List.any_eq_false] at h
    exact h x hx hpx
  rw [if_neg hn, List.findIdx_cons, hp, hl]
  simp; omega
theorem idxP_spec (p : Vis → Bool) (l : List Vis) : -1 ≤ idxP p l ∧ idxP p l < (l.length : Int) ∧ (idxP p l = -1 → l.filter (fun x => !p x) = l) ∧ (0 ≤ idxP p l → l.take (idxP p l).toNat = (l.take (idxP p l + 1).toNat).filter (fun x => !p x)) := by
  unfold idxP
  by_cases h : l.any p = true
  · rw [if_pos h]
    obtain ⟨x, hx, hp⟩ := List.any_eq_true.1 h
    have hlt := List.findIdx_lt_length_of_exists (p := p) ⟨x, hx, hp⟩
    refine ⟨by omega, by omega, fun h => by omega, fun _ => ?_⟩
    generalize hj : List.findIdx p l = j at *
    have hpj : p l[j] = true := by subst hj; exact List.findIdx_getElem
    rw [show ((j : Int) + 1).toNat = j + 1 from by omega, show ((j : Int)).toNat = j from by omega, List.take_succ_eq_append_getElem hlt, List.filter_append]
    rw [List.filter_cons_of_neg (by simp [hpj]), List.filter_nil, List.append_nil]
    symm
    rw [List.filter_eq_self]
    intro y hy
    obtain ⟨i, hi, he⟩ := List.getElem_of_mem hy
    rw [List.length_take] at hi
    rw [List.getElem_take] at he
    have := List.not_of_lt_findIdx (p := p) (xs := l) (i := i) (by omega)
    rw [he] at this
    simpa using this
  · rw [if_neg h]
    refine ⟨by omega, by omega, fun _ => ?_, fun h => by omega⟩
    rw [List.filter_eq_self]
    intro x hx
    rw [List.any_eq_true] at h
    simp only [Bool.not_eq_eq_eq_not, Bool.not_true]
    cases hq : p x
    · rfl
    · exact absurd ⟨x, hx, hq⟩ h
/-! ### DeleteFunc's round -/
structure DelI (p : Vis → Bool) (l X : List Vis) (j i : Int) : Prop where
  len : X.length = l.length
  kept : X.take j.toNat = (l.take i.toNat).filter (fun x => !p x)
  rest : X.drop i.toNat = l.drop i.toNat
theorem del_init {p : Vis → Bool} {l : List Vis} (h : 0 ≤ idxP p l) : DelI p l l (idxP p l) (idxP p l + 1) := ⟨rfl, (idxP_spec p l).2.2.2 h, rfl⟩
theorem del_gt {p : Vis → Bool} {l X : List Vis} {j i : Int} (h : DelI p l X j i) (h0 : 0 ≤ i) (h1 : i < (l.length : Int)) : gt X i = gt l i := by
  have e1 := tk_drop (s := X) h0 (by rw [h.len]; exact h1)
  have e2 := tk_drop (s := l) h0 h1
  rw [h.rest, e2] at e1
  injection e1 with e _
  exact e.symm
theorem del_keep {p : Vis → Bool} {l X : List Vis} {j i : Int} (h : DelI p l X j i) (hj : 0 ≤ j) (hji : j < i) (h1 : i < (l.length : Int)) (hp : p (gt X i) = false) : DelI p l (X.set j.toNat (gt X i)) (j + 1) (i + 1) := by
  have hg := del_gt h (by omega) h1
  have hl := h.len
  refine ⟨by rw [List.length_set]; exact h.len, ?_, ?_⟩
  · rw [take_gt hj (by rw [List.length_set]; omega), gt_set hj (by omega), take_gt (by omega) h1, List.filter_append, ← h.kept]
    rw [List.filter_cons_of_pos (by rw [← hg, hp]; rfl), List.filter_nil, hg]
    congr 1
    rw [List.take_set_of_le (by omega)]
  · rw [List.drop_set_of_lt (by omega)]
    have e1 := tk_drop (s := X) (x := i) (by omega) (by omega)
    have e2 := tk_drop (s := l) (x := i) (by omega) h1
    have := h.rest
    rw [e1, e2] at this
    injection this
theorem del_skip {p : Vis → Bool} {l X : List Vis} {j i : Int} (h : DelI p l X j i) (hj : 0 ≤ j) (hji : j < i) (h1 : i < (l.length : Int)) (hp : p (gt X i) = true) : DelI p l X j (i + 1) := by
  have hg := del_gt h (by omega) h1
  have hl := h.len
  refine ⟨h.len, ?_, ?_⟩
  · rw [take_gt (by omega) h1, List.filter_append, ← h.kept, List.filter_cons_of_neg (by rw [← hg, hp]; simp)]; simp
  · have e1 := tk_drop (s := X) (x := i) (by omega) (by omega)
    have e2 := tk_drop (s := l) (x := i) (by omega) h1
    have := h.rest
    rw [e1, e2] at this
    injection this
theorem del_end {p : Vis → Bool} {l X : List Vis} {j i : Int} (h : DelI p l X j i) (hi : ¬ i < (l.length : Int)) : X.take j.toNat = l.filter (fun x => !p x) := by
  rw [h.kept, List.take_of_length_le (by omega)]
theorem del_tail {X : List Vis} {T zs : List Value} {j : Int} {c : Nat} (hT : T.take (X.length * eVis.sz) = flat eVis X) (hj : 0 ≤ j) (hjl : j ≤ (X.length : Int)) (hl : T.length = c * 2) (hc : X.length ≤ c) : (put T (j.toNat * 2) zs).take ((X.take j.toNat).length * eVis.sz) = flat eVis (X.take j.toNat) := by
  have e : (X.take j.toNat).length = j.toNat := by rw [List.length_take]; omega
  rw [e]
  show (put T (j.toNat * 2) zs).take (j.toNat * 2) = _
  rw [put_take (Nat.le_refl _) (by omega)]
  exact head_flat hT rfl (by omega)
/-! ### Pair -/
def restP (l : List Vis) (i : Int) : List Vis := l.filter (fun x => !hitV ⟨2, (gt l i).item⟩ ⟨3, (gt l i).item⟩ x)
def pairOk (l : List Vis) (i j k : Int) : Prop := 0 ≤ i ∧ i < (l.length : Int) ∧ ((gt l i).kind = 2 ∨ (gt l i).kind = 3) ∧ ((restP l i).length : Int) = l.length - 2 ∧ (⟨2, (gt l i).item⟩ : Vis) ∈ l ∧ (⟨3, (gt l i).item⟩ : Vis) ∈ l ∧ 0 ≤ j ∧ j ≤ ((restP l i).length : Int) ∧ j < k ∧ k ≤ ((restP l i).length : Int) + 1
instance (l : List Vis) (i j k : Int) : Decidable (pairOk l i j k) := by unfold pairOk; infer_instance
def pairF (l : List Vis) (i j k : Int) : Bool × List Vis := if pairOk l i j k then (true, insL (insL (restP l i) j [⟨2, (gt l i).item⟩]) k [⟨3, (gt l i).item⟩]) else (false, l)
theorem ins_gt {r : List Vis} {u : Vis} {j n : Int} (h0 : 0 ≤ j) (h1 : j ≤ (r.length : Int)) (hn : 0 ≤ n) : gt (insL r j [u]) n = if n < j then gt r n else if n = j then u else gt r (n - 1) := by
  have hl : (r.take j.toNat).length = j.toNat := by rw [List.length_take]; omega
  unfold insL repL gt
  simp only [List.getD_eq_getElem?_getD]
  by_cases a : n < j
  · rw [if_pos a, List.append_assoc, List.getElem?_append_left (by omega), List.getElem?_take_of_lt (by omega)]
  · rw [if_neg a, List.append_assoc, List.getElem?_append_right (by omega), hl]
    by_cases e : n = j
    · rw [if_pos e, show n.toNat - j.toNat = 0 from by omega]; rfl
    · rw [if_neg e, show n.toNat - j.toNat = (n.toNat - j.toNat - 1) + 1 from by omega]
      show (Option.getD ((r.drop j.toNat)[n.toNat - j.toNat - 1]?) default) = _
      rw [List.getElem?_drop, show j.toNat + (n.toNat - j.toNat - 1) = (n - 1).toNat from by omega]
def atP (j k n : Int) : Int := n - (if j < n then 1 else 0) - (if k < n then 1 else 0)
theorem pair_gt {r : List Vis} {u v : Vis} {j k n : Int} (h0 : 0 ≤ j) (h1 : j ≤ (r.length : Int)) (h2 : j < k) (h3 : k ≤ (r.length : Int) + 1) (hn : 0 ≤ n) (hj : n ≠ j) (hk : n ≠ k) : gt (insL (insL r j [u]) k [v]) n = gt r (atP j k n) := by
  have hl : (insL r j [u]).length = r.length + 1 := by rw [ins_len h0 h1]; rfl
  rw [ins_gt (by omega) (by rw [hl]; omega) hn]
  unfold atP
  by_cases a : n < k
  · rw [if_pos a, ins_gt h0 h1 hn]
    by_cases b : n < j
    · rw [if_pos b, if_neg (by omega), if_neg (by omega)]; congr 1; omega
    · rw [if_neg b, if_neg hj, if_pos (by omega), if_neg (by omega)]; congr 1; omega
  · rw [if_neg a, if_neg hk, ins_gt h0 h1 (by omega), if_neg (by omega), if_neg (by omega), if_pos (by omega), if_pos (by omega)]
theorem pair_len {r : List Vis} {u v : Vis} {j k : Int} (h0 : 0 ≤ j) (h1 : j ≤ (r.length : Int)) (h2 : j < k) (h3 : k ≤ (r.length : Int) + 1) : (insL (insL r j [u]) k [v]).length = r.length + 2 := by
  rw [ins_len (by omega) (by rw [ins_len h0 h1]; simp; omega), ins_len h0 h1]; rfl
/-- What is known behind a Pair. -/
theorem pair_yes {l m : List Vis} {i j k : Int} (h : (true, m) = pairF l i j k) : pairOk l i j k ∧ m.length = l.length ∧ gt m j = ⟨2, (gt l i).item⟩ ∧ gt m k = ⟨3, (gt l i).item⟩ ∧ k < (m.length : Int) ∧ ∀ n, 0 ≤ n → n ≠ j → n ≠ k → gt m n = gt (restP l i) (atP j k n) := by
  unfold pairF at h
  by_cases ok : pairOk l i j k
  · rw [if_pos ok] at h
    injection h with _ h
    have ok' := ok
    obtain ⟨a0, a1, a2, a3, a4, a5, a6, a7, a8, a9⟩ := ok'
    have hl := pair_len (u := ⟨2, (gt l i).item⟩) (v := ⟨3, (gt l i).item⟩) a6 a7 a8 a9
    rw [h]
    refine ⟨ok, by omega, ?_, ?_, by omega, fun n hn hj hk => pair_gt a6 a7 a8 a9 hn hj hk⟩
    · rw [ins_gt (by omega) (by rw [ins_len a6 a7]; simp; omega) a6, if_pos a8, ins_gt a6 a7 a6, if_neg (by omega), if_pos rfl]
    · rw [ins_gt (by omega) (by rw [ins_len a6 a7]; simp; omega) (by omega), if_neg (by omega), if_pos rfl]
  · rw [if_neg ok] at h
    injection h with h _
    cases h
theorem pair_no {l m : List Vis} {i j k : Int} (h : (false, m) = pairF l i j k) : m = l := by
  unfold pairF at h
  split at h
  · injection h with h _; cases h
  · injection h
theorem gather {r : List Vis} {X : List Vis} {y : Int} (h : X = r.take y.toNat) (h0 : 0 ≤ y) (h1 : y < (r.length : Int)) : X ++ [gt r y] = r.take (y + 1).toNat := by rw [take_gt h0 h1, h]
end Go.SX
namespace Go.SX
theorem pair_ok {l : List Vis} {i j k : Int} (h0 : 0 ≤ i) (h1 : i < (l.length : Int)) (hk : (gt l i).kind = 2 ∨ (gt l i).kind = 3)
    (h : ¬ (((((((((restP l i).length : Int) ≠ l.length - 2 ∨ ¬ (⟨2, (gt l i).item⟩ : Vis) ∈ l) ∨ ¬ (⟨3, (gt l i).item⟩ : Vis) ∈ l) ∨ j < 0) ∨ j > ((restP l i).length : Int)) ∨ k ≤ j) ∨ k > ((restP l i).length : Int) + 1))) : pairOk l i j k := by
  simp only [not_or, Classical.not_not] at h
  obtain ⟨⟨⟨⟨⟨⟨a, b⟩, c⟩, d⟩, e⟩, f⟩, g⟩ := h
  exact ⟨h0, h1, hk, by omega, b, c, by omega, by omega, by omega, by omega⟩
theorem pair_nok {l : List Vis} {i j k : Int} 
    (h : (((((((((restP l i).length : Int) ≠ l.length - 2 ∨ ¬ (⟨2, (gt l i).item⟩ : Vis) ∈ l) ∨ ¬ (⟨3, (gt l i).item⟩ : Vis) ∈ l) ∨ j < 0) ∨ j > ((restP l i).length : Int)) ∨ k ≤ j) ∨ k > ((restP l i).length : Int) + 1))) : (false, l) = pairF l i j k := by
  unfold pairF
  rw [if_neg]
  rintro ⟨a0, a1, a2, a3, a4, a5, a6, a7, a8, a9⟩
  rcases h with (((((h | h) | h) | h) | h) | h) | h
  · omega
  · exact h a4
  · exact h a5
  all_goals omega
theorem pair_nof {l : List Vis} {i j k : Int} (h : ¬ (0 ≤ i ∧ i < (l.length : Int) ∧ ((gt l i).kind = 2 ∨ (gt l i).kind = 3))) : (false, l) = pairF l i j k := by
  unfold pairF
  rw [if_neg]
  rintro ⟨a0, a1, a2, _⟩
  exact h ⟨a0, a1, a2⟩
end Go.SX
namespace Go.SX
theorem hit_off {x : Vis} {it : Int} : (¬ (x.kind = 2 ∧ x.item = it) ∧ ¬ (x.kind = 3 ∧ x.item = it)) ↔ (!hitV ⟨2, it⟩ ⟨3, it⟩ x) = true := by
  unfold hitV
  rcases x with ⟨a, b⟩
  by_cases h : b = it <;> simp [Vis.mk.injEq, h]
theorem at_lt {r j k n : Int} (h0 : 0 ≤ j) (h1 : j ≤ r) (h2 : j < k) (h3 : k ≤ r + 1) (hn : 0 ≤ n) (hj : n ≠ j) (hk : n ≠ k) (hl : n < r + 2) : 0 ≤ atP j k n ∧ atP j k n < r ∧ atP j k (n + 1) = atP j k n + 1 := by
  unfold atP
  refine ⟨?_, ?_, ?_⟩ <;> (repeat' split) <;> omega
theorem at_eq {j k n : Int} (h2 : j < k) (h : n = j ∨ n = k) : atP j k (n + 1) = atP j k n := by
  unfold atP
  (repeat' split) <;> omega
theorem ip_X1 {r m X : List Vis} {j k n : Int} (h : X = r.take (atP j k n).toNat) (hg : gt m n = gt r (atP j k n)) (h0 : 0 ≤ j) (h1 : j ≤ (r.length : Int)) (h2 : j < k) (h3 : k ≤ (r.length : Int) + 1) (hn : 0 ≤ n) (hj : n ≠ j) (hk : n ≠ k) (hl : n < (r.length : Int) + 2) : X ++ [gt m n] = r.take (atP j k (n + 1)).toNat := by
  obtain ⟨a, b, c⟩ := at_lt h0 h1 h2 h3 hn hj hk hl
  rw [hg, c]; exact gather h a b
theorem ip_X0 {r X : List Vis} {j k n : Int} (h : X = r.take (atP j k n).toNat) (h2 : j < k) (e : n = j ∨ n = k) : X = r.take (atP j k (n + 1)).toNat := by rw [at_eq h2 e]; exact h
theorem ip_Y1 {l Y : List Vis} {q : Vis → Bool} {n : Int} (h : Y = (l.take n.toNat).filter q) (h0 : 0 ≤ n) (h1 : n < (l.length : Int)) (hq : q (gt l n) = true) : Y ++ [gt l n] = (l.take (n + 1).toNat).filter q := by
  rw [take_gt h0 h1, List.filter_append, h, List.filter_cons_of_pos hq]; rfl
theorem ip_Y0 {l Y : List Vis} {q : Vis → Bool} {n : Int} (h : Y = (l.take n.toNat).filter q) (h0 : 0 ≤ n) (h1 : n < (l.length : Int)) (hq : ¬ q (gt l n) = true) : Y = (l.take (n + 1).toNat).filter q := by
  rw [take_gt h0 h1, List.filter_append, h, List.filter_cons_of_neg hq]; simp
theorem ip_start {r : List Vis} {j k : Int} (h0 : 0 ≤ j) (h2 : j < k) : ([] : List Vis) = r.take (atP j k 0).toNat := by
  unfold atP; rw [if_neg (by omega), if_neg (by omega)]; rfl
theorem ip_end {r X Y l : List Vis} {q : Vis → Bool} {j k n : Int} (h : X = r.take (atP j k n).toNat) (hy : Y = (l.take n.toNat).filter q) (hr : r = l.filter q) (hl : (l.length : Int) ≤ n) (h2 : (r.length : Int) + 2 ≤ n) (h3 : k < n) (h4 : j < k) : X = Y := by
  rw [h, hy, List.take_of_length_le (l := l) (by omega), ← hr]
  unfold atP
  rw [if_pos (by omega), if_pos (by omega)]
  exact List.take_of_length_le (by omega)
end Go.SX
