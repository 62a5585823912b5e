/- The document's answer to a change between two lists, and that the program's is the same. -/
import Derived.Test.YtfmfhkaimhmgdaaSxGrow
set_option linter.unusedVariables false
set_option linter.unusedSimpArgs false
namespace Go.SX
open Go
def wholeF (l : List Vis) (i : Int) : Bool × Int × List Vis × Bool :=
  let t := ofF (gt l i).kind (gt l i).item
  (t.1, t.2.1, l.filter (offV (visF t.1 t.2.1)), t.2.2 && (visF t.1 t.2.1).all (fun v => decide (l.count v = 1)))
def putOk (n j k : Int) (s : Bool) : Prop := ¬ (j < 0 ∨ j > n ∨ (s = true ∧ (k ≤ j ∨ k > n + 1)))
instance (n j k : Int) (s : Bool) : Decidable (putOk n j k s) := by unfold putOk; infer_instance
def putL (l : List Vis) (s : Bool) (y j k : Int) : List Vis := if s = true then insL (insL l j [⟨2, y⟩]) k [⟨3, y⟩] else insL l j [⟨1, y⟩]
def putF (l : List Vis) (s : Bool) (y j k : Int) : List Vis × Bool := if putOk l.length j k s then (putL l s y j k, true) else ([], false)
def inter0 (a b : List Vis) (j k : Int) (w : Bool × Int × List Vis × Bool) : Bool × List Vis × List Vis :=
  if w.2.2.2 = true ∧ (putF b w.1 w.2.1 j k).2 = true then (true, w.2.2.1, (putF b w.1 w.2.1 j k).1) else (false, a, b)
def inter5 (a b : List Vis) (i k : Int) (w u : Bool × Int × List Vis × Bool) : Bool × List Vis × List Vis :=
  if w.2.2.2 = true ∧ u.2.2.2 = true ∧ (putF w.2.2.1 u.1 u.2.1 (min i w.2.2.1.length) k).2 = true then (true, (putF w.2.2.1 u.1 u.2.1 (min i w.2.2.1.length) k).1, u.2.2.1 ++ visF w.1 w.2.1) else (false, a, b)
def rep2 (a b : List Vis) (i j w : Int) : List Vis := a.take i.toNat ++ (b.take (j + w).toNat).drop j.toNat ++ a.drop (i + w).toNat
def interF (a b : List Vis) (c i j k : Int) : Bool × List Vis × List Vis :=
  if c = 0 then (if 0 ≤ i ∧ i < (a.length : Int) then inter0 a b j k (wholeF a i) else (false, a, b))
  else if c = 1 ∨ c = 2 then (if 0 ≤ i ∧ i < (a.length : Int) ∧ 0 ≤ j ∧ j < (b.length : Int) ∧ i + c ≤ a.length ∧ j + c ≤ b.length then (true, rep2 a b i j c, rep2 b a j i c) else (false, a, b))
  else if c = 3 then tailsF a b i j
  else if c = 4 then turnedF a b i j
  else (if ex2Ok a.length b.length i j then inter5 a b i k (wholeF a i) (wholeF b j) else (false, a, b))

/-! ### taken -/
theorem idx_app {as bs : List Vis} {v : Vis} (h : v ∉ as) : idxV (as ++ v :: bs) v = as.length := by
  unfold idxV
  rw [if_pos (by simp), List.idxOf_append, if_neg h, List.idxOf_cons_self]
  omega
theorem filter_off {as : List Vis} {v : Vis} (h : v ∉ as) : as.filter (fun x => decide (x ≠ v)) = as := by
  rw [List.filter_eq_self]
  intro x hx
  simp only [decide_eq_true_eq]
  rintro rfl
  exact h hx
theorem take_cons {l s : List Vis} {v : Vis} : takeG l (v :: s) = if l.count v = 1 then takeG (l.filter (fun x => decide (x ≠ v))) s else ([], false) := by
  rw [takeG]
  by_cases hm : v ∈ l
  · obtain ⟨as, bs, rfl, hx⟩ := List.eq_append_cons_of_mem hm
    rw [idx_app hx]
    have hd : (as ++ v :: bs).drop ((as.length : Int) + 1).toNat = bs := by
      rw [show ((as.length : Int) + 1).toNat = as.length + 1 from by omega, ← List.drop_drop, List.drop_left]; rfl
    have ht : (as ++ v :: bs).take ((as.length : Int)).toNat = as := by
      rw [show ((as.length : Int)).toNat = as.length from by omega, List.take_left]
    rw [hd, ht]
    have hc : (as ++ v :: bs).count v = bs.count v + 1 := by
      rw [List.count_append, List.count_eq_zero.2 hx, List.count_cons_self]; omega
    by_cases hb : v ∈ bs
    · rw [if_pos (.inr hb), if_neg]
      have := List.count_pos_iff.2 hb
      omega
    · rw [if_neg (by rintro (h | h); omega; exact hb h), if_pos (by rw [hc, List.count_eq_zero.2 hb])]
      rw [List.filter_append, List.filter_cons_of_neg (by simp), filter_off hx, filter_off hb]
  · rw [if_pos (.inl (by unfold idxV; rw [if_neg hm]; omega)), if_neg (by rw [List.count_eq_zero.2 hm]; omega)]
theorem take_vis {l : List Vis} {s : Bool} {y : Int} : takeG l (visF s y) = if (visF s y).all (fun v => decide (l.count v = 1)) = true then (l.filter (offV (visF s y)), true) else ([], false) := by
  cases s with
  | false =>
    show takeG l [⟨1, y⟩] = if ([⟨1, y⟩] : List Vis).all _ = true then (l.filter (offV [⟨1, y⟩]), true) else _
    have hf : offV [⟨1, y⟩] = fun x => decide (x ≠ ⟨1, y⟩) := by
      funext x; unfold offV; simp [gt]
    rw [take_cons, hf]
    by_cases h : l.count ⟨1, y⟩ = 1
    · rw [if_pos h, if_pos (by simp [h])]; simp [takeG]
    · rw [if_neg h, if_neg (by simp [h])]
  | true =>
    show takeG l [⟨2, y⟩, ⟨3, y⟩] = if ([⟨2, y⟩, ⟨3, y⟩] : List Vis).all _ = true then (l.filter (offV [⟨2, y⟩, ⟨3, y⟩]), true) else _
    have hf : l.filter (offV [⟨2, y⟩, ⟨3, y⟩]) = (l.filter (fun x => decide (x ≠ ⟨2, y⟩))).filter (fun x => decide (x ≠ ⟨3, y⟩)) := by
      rw [List.filter_filter]
      congr 1
      funext x; unfold offV; simp [gt, Bool.and_comm]
    rw [take_cons, hf]
    have hc : (l.filter (fun x => decide (x ≠ (⟨2, y⟩ : Vis)))).count ⟨3, y⟩ = l.count ⟨3, y⟩ := by
      rw [List.count_filter (by simp)]
    by_cases h : l.count ⟨2, y⟩ = 1
    · rw [if_pos h, take_cons, hc]
      by_cases h3 : l.count ⟨3, y⟩ = 1
      · rw [if_pos h3, if_pos (by simp [h, h3])]; simp [takeG]
      · rw [if_neg h3, if_neg (by simp [h3])]
    · rw [if_neg h, if_neg (by simp [h])]
theorem take_whole {l : List Vis} {i : Int} : takeG l (visF (wholeF l i).1 (wholeF l i).2.1) = if (visF (wholeF l i).1 (wholeF l i).2.1).all (fun v => decide (l.count v = 1)) = true then ((wholeF l i).2.2.1, true) else ([], false) := take_vis
theorem put_ins {l : List Vis} {s : Bool} {y j k : Int} : putL l s y j k = if ((visF s y).length : Int) = 2 then insL (insL l j [gt (visF s y) 0]) k [gt (visF s y) 1] else insL l j [gt (visF s y) 0] := by
  cases s <;> simp [putL, visF, gt]
theorem two_iff {s : Bool} {y : Int} : ((visF s y).length : Int) = 2 ↔ s = true := by cases s <;> simp [visF]
theorem rel_inter {a b : List Vis} {i j k : Int} : relF a b i j k = if 0 ≤ i ∧ i < (a.length : Int) then inter0 a b j k (wholeF a i) else (false, a, b) := by
  unfold relF
  by_cases h : 0 ≤ i ∧ i < (a.length : Int)
  · rw [if_pos h, if_pos h]
    show relH a b j k (ofF (gt a i).kind (gt a i).item).2.2 (visF (wholeF a i).1 (wholeF a i).2.1) (takeG a (visF (wholeF a i).1 (wholeF a i).2.1)) = _
    have hw : (wholeF a i).2.2.2 = ((ofF (gt a i).kind (gt a i).item).2.2 && (visF (wholeF a i).1 (wholeF a i).2.1).all (fun v => decide (a.count v = 1))) := rfl
    unfold inter0 putF
    rw [take_whole, hw]
    generalize (ofF (gt a i).kind (gt a i).item).2.2 = is
    generalize hal : (visF (wholeF a i).1 (wholeF a i).2.1).all (fun v => decide (a.count v = 1)) = al
    unfold relH
    have hp : relOk b.length j k (visF (wholeF a i).1 (wholeF a i).2.1).length ↔ putOk b.length j k (wholeF a i).1 := by
      unfold relOk putOk
      rw [two_iff]
      generalize (wholeF a i).1 = s
      cases s <;> simp <;> omega
    cases is <;> cases al <;> simp only [if_true, Bool.true_and, Bool.and_true, Bool.false_and, Bool.and_false, true_and, false_and, and_false, Bool.false_eq_true, if_false]
    by_cases hk : putOk b.length j k (wholeF a i).1
    · rw [if_pos hk, if_pos (hp.2 hk), if_pos rfl, ← put_ins]
    · rw [if_neg hk, if_neg (fun e => hk (hp.1 e)), if_neg (by simp)]
  · rw [if_neg h, if_neg h]
theorem swap_inter {a b : List Vis} {i j k : Int} : swapF a b i j k = if ex2Ok a.length b.length i j then inter5 a b i k (wholeF a i) (wholeF b j) else (false, a, b) := by
  unfold swapF
  by_cases h : ex2Ok a.length b.length i j
  · rw [if_pos h, if_pos h]
    have h0 : 0 ≤ i := h.1
    show swapH a b i k (ofF (gt a i).kind (gt a i).item).2.2 (ofF (gt b j).kind (gt b j).item).2.2 (visF (wholeF a i).1 (wholeF a i).2.1) (visF (wholeF b j).1 (wholeF b j).2.1) (takeG a (visF (wholeF a i).1 (wholeF a i).2.1)) (takeG b (visF (wholeF b j).1 (wholeF b j).2.1)) = _
    have hw : (wholeF a i).2.2.2 = ((ofF (gt a i).kind (gt a i).item).2.2 && (visF (wholeF a i).1 (wholeF a i).2.1).all (fun v => decide (a.count v = 1))) := rfl
    have hu : (wholeF b j).2.2.2 = ((ofF (gt b j).kind (gt b j).item).2.2 && (visF (wholeF b j).1 (wholeF b j).2.1).all (fun v => decide (b.count v = 1))) := rfl
    unfold inter5 putF
    rw [take_whole, take_whole, hw, hu]
    generalize (ofF (gt a i).kind (gt a i).item).2.2 = is
    generalize (ofF (gt b j).kind (gt b j).item).2.2 = us
    generalize hal : (visF (wholeF a i).1 (wholeF a i).2.1).all (fun v => decide (a.count v = 1)) = al
    generalize hbl : (visF (wholeF b j).1 (wholeF b j).2.1).all (fun v => decide (b.count v = 1)) = bl
    unfold swapH
    have hp : swOk (wholeF a i).2.2.1.length k (min i (wholeF a i).2.2.1.length) (visF (wholeF b j).1 (wholeF b j).2.1).length ↔ putOk (wholeF a i).2.2.1.length (min i (wholeF a i).2.2.1.length) k (wholeF b j).1 := by
      unfold swOk putOk
      rw [two_iff]
      generalize (wholeF b j).1 = s
      cases s <;> simp <;> omega
    cases is <;> cases us <;> cases al <;> cases bl <;> simp only [if_true, Bool.true_and, Bool.and_true, Bool.false_and, Bool.and_false, true_and, false_and, and_false, Bool.false_eq_true, if_false]
    by_cases hk : putOk (wholeF a i).2.2.1.length (min i (wholeF a i).2.2.1.length) k (wholeF b j).1
    · rw [if_pos hk, if_pos (hp.2 hk), if_pos rfl, put_ins]; rfl
    · rw [if_neg hk, if_neg (fun e => hk (hp.1 e)), if_neg (by simp)]
  · rw [if_neg h, if_neg h]

/-! ### Exchange, Cross -/
theorem set_one {l : List Vis} {i : Int} {x : Vis} (h0 : 0 ≤ i) (h1 : i < (l.length : Int)) : l.set i.toNat x = l.take i.toNat ++ [x] ++ l.drop (i + 1).toNat := by
  rw [List.set_eq_take_append_cons_drop, if_pos (by omega), show (i + 1).toNat = i.toNat + 1 from by omega]; simp
theorem part_one {l : List Vis} {j : Int} (h0 : 0 ≤ j) (h1 : j < (l.length : Int)) : (l.take (j + 1).toNat).drop j.toNat = [gt l j] := by
  rw [take_gt h0 h1, List.drop_left' (by rw [List.length_take]; omega)]
theorem part_two {l : List Vis} {j : Int} (h0 : 0 ≤ j) (h1 : j + 1 < (l.length : Int)) : (l.take (j + 2).toNat).drop j.toNat = [gt l j, gt l (j + 1)] := by
  rw [show j + 2 = j + 1 + 1 from by omega, take_gt (by omega) h1, take_gt h0 (by omega), List.append_assoc, List.drop_left' (by rw [List.length_take]; omega)]; rfl
theorem set_two {l : List Vis} {i : Int} {x y : Vis} (h0 : 0 ≤ i) (h1 : i + 1 < (l.length : Int)) : (l.set i.toNat x).set (i + 1).toNat y = l.take i.toNat ++ [x, y] ++ l.drop (i + 2).toNat := by
  have hp : (l.take i.toNat ++ [x]).length = (i + 1).toNat := by rw [List.length_append, List.length_take]; simp; omega
  rw [set_one (l := l.set i.toNat x) (by omega) (by rw [List.length_set]; omega), set_one h0 (by omega), List.take_left' hp, show i + 1 + 1 = i + 2 from by omega]
  have hd : (l.take i.toNat ++ [x] ++ l.drop (i + 1).toNat).drop (i + 2).toNat = l.drop (i + 2).toNat := by
    rw [show (i + 2).toNat = (i + 1).toNat + 1 from by omega, ← List.drop_drop, List.drop_left' hp, List.drop_drop]
  rw [hd]
  simp
theorem ex2_inter {a b : List Vis} {i j : Int} : ex2F a b i j = if 0 ≤ i ∧ i < (a.length : Int) ∧ 0 ≤ j ∧ j < (b.length : Int) ∧ i + 1 ≤ a.length ∧ j + 1 ≤ b.length then (true, rep2 a b i j 1, rep2 b a j i 1) else (false, a, b) := by
  unfold ex2F
  by_cases h : ex2Ok a.length b.length i j
  · obtain ⟨h0, h1, h2, h3⟩ := h
    rw [if_pos ⟨h0, h1, h2, h3⟩, if_pos ⟨h0, h1, h2, h3, by omega, by omega⟩]
    unfold rep2
    rw [set_one h0 h1, set_one h2 h3, part_one h0 h1, part_one h2 h3]
  · rw [if_neg h, if_neg (fun ⟨h0, h1, h2, h3, _⟩ => h ⟨h0, h1, h2, h3⟩)]
theorem cross_inter {a b : List Vis} {i j : Int} : crossF a b i j = if 0 ≤ i ∧ i < (a.length : Int) ∧ 0 ≤ j ∧ j < (b.length : Int) ∧ i + 2 ≤ a.length ∧ j + 2 ≤ b.length then (true, rep2 a b i j 2, rep2 b a j i 2) else (false, a, b) := by
  unfold crossF
  by_cases h : ex2Ok (a.length - 1) (b.length - 1) i j
  · have h' := h
    obtain ⟨h0, h1, h2, h3⟩ := h'
    rw [if_pos h, if_pos ⟨h0, by omega, h2, by omega, by omega, by omega⟩]
    unfold rep2
    rw [gt_set_ne (by omega), gt_set_ne (by omega), set_two h0 (by omega), set_two h2 (by omega), part_two h0 (by omega), part_two h2 (by omega)]
  · rw [if_neg h, if_neg (fun ⟨h0, h1, h2, h3, h4, h5⟩ => h ⟨h0, by omega, h2, by omega⟩)]
/-- The program's change is the document's. -/
theorem play_inter {a b : List Vis} {c i j k : Int} (hc : 0 ≤ c ∧ c < 6) : playF a b c i j k = interF a b c i j k := by
  unfold playF interF
  by_cases h0 : c = 0
  · rw [if_pos h0, if_pos h0, rel_inter]
  rw [if_neg h0, if_neg h0]
  by_cases h1 : c = 1
  · subst h1; rw [if_pos rfl, if_pos (.inl rfl), ex2_inter]
  rw [if_neg h1]
  by_cases h2 : c = 2
  · subst h2; rw [if_pos rfl, if_pos (.inr rfl), cross_inter]
  rw [if_neg h2, if_neg (show ¬ (c = 1 ∨ c = 2) by omega)]
  by_cases h3 : c = 3
  · rw [if_pos h3, if_pos h3]
  rw [if_neg h3, if_neg h3]
  by_cases h4 : c = 4
  · rw [if_pos h4, if_pos h4]
  rw [if_neg h4, if_neg h4, swap_inter]
end Go.SX
namespace Go.SX
/-! ### Steps of the walk -/
theorem cnt_yes {l : List Vis} {v : Vis} {z k : Int} (h : k = ((l.take z.toNat).count v : Int)) (h0 : 0 ≤ z) (h1 : z < (l.length : Int)) (e : (gt l z).kind = v.kind ∧ (gt l z).item = v.item) : k + 1 = ((l.take (z + 1).toNat).count v : Int) := by
  rw [take_gt h0 h1, List.count_append, vis_ext e.1 e.2, List.count_singleton_self]; omega
theorem cnt_no {l : List Vis} {v : Vis} {z k : Int} (h : k = ((l.take z.toNat).count v : Int)) (h0 : 0 ≤ z) (h1 : z < (l.length : Int)) (e : ¬ ((gt l z).kind = v.kind ∧ (gt l z).item = v.item)) : k = ((l.take (z + 1).toNat).count v : Int) := by
  have hn : gt l z ≠ v := fun h => e (by rw [h]; exact ⟨rfl, rfl⟩)
  rw [take_gt h0 h1, List.count_append, List.count_singleton, if_neg (by simpa using hn)]; omega
theorem wh_next {l m : List Vis} {x z k : Int} {R b : Bool} (h : R = (b && (m.take x.toNat).all (fun v => decide (l.count v = 1)))) (hR : R = true) (h0 : 0 ≤ x) (h1 : x < (m.length : Int)) (p : k = ((l.take z.toNat).count (gt m x) : Int)) (hz : ¬ z < (l.length : Int)) : (k == 1) = (b && (m.take (x + 1).toNat).all (fun v => decide (l.count v = 1))) := by
  rw [take_gt h0 h1, List.all_append, ← Bool.and_assoc, ← h, hR, p, List.take_of_length_le (by omega)]
  simp only [List.all_cons, List.all_nil, Bool.and_true, Bool.true_and]
  rw [Bool.eq_iff_iff]
  simp only [beq_iff_eq, decide_eq_true_eq]
  omega
theorem wh_end {l m X : List Vis} {i x y : Int} {R b s : Bool} (h1 : (s, y, b) = ofF (gt l i).kind (gt l i).item) (h2 : m = visF s y) (h3 : X = l.filter (offV (visF s y))) (q : R = (b && (m.take x.toNat).all (fun v => decide (l.count v = 1)))) (h : ¬ (x < (m.length : Int) ∧ R = true)) : (s, y, X, R) = wholeF l i := by
  unfold wholeF
  rw [← h1]
  dsimp only
  rw [← h3, ← h2]
  have hR : R = (b && m.all (fun v => decide (l.count v = 1))) := by
    by_cases hx : x < (m.length : Int)
    · have hf : R = false := by
        cases R
        · rfl
        · exact absurd ⟨hx, rfl⟩ h
      subst hf
      symm
      rw [Bool.and_eq_false_iff]
      rcases Bool.and_eq_false_iff.1 q.symm with e | e
      · exact .inl e
      · refine .inr ?_
        rw [List.all_eq_false] at e ⊢
        obtain ⟨v, hv, hn⟩ := e
        exact ⟨v, List.mem_of_mem_take hv, hn⟩
    · rw [q, List.take_of_length_le (by omega)]
  rw [hR]
theorem pt_no {l : List Vis} {s : Bool} {y j k : Int} (h : ¬ putOk l.length j k s) : ([], false) = putF l s y j k := by unfold putF; rw [if_neg h]
theorem pt_yes {l X : List Vis} {s : Bool} {y j k : Int} (h : putOk l.length j k s) (e : X = putL l s y j k) : (X, true) = putF l s y j k := by unfold putF; rw [if_pos h, e]
theorem in_0a {a b : List Vis} {c i j k : Int} (hc : c = 0) (h : ¬ (0 ≤ i ∧ i < (a.length : Int))) : (false, a, b) = interF a b c i j k := by unfold interF; rw [if_pos hc, if_neg h]
theorem in_0b {a b X : List Vis} {c i j k y : Int} {s r : Bool} (hc : c = 0) (h : 0 ≤ i ∧ i < (a.length : Int)) (w : (s, y, X, r) = wholeF a i) (hr : ¬ r = true) : (false, a, b) = interF a b c i j k := by
  unfold interF; rw [if_pos hc, if_pos h, ← w]; unfold inter0; rw [if_neg (fun e => hr e.1)]
theorem in_0c {a b X Q : List Vis} {c i j k y : Int} {s r t : Bool} (hc : c = 0) (h : 0 ≤ i ∧ i < (a.length : Int)) (w : (s, y, X, r) = wholeF a i) (p : (Q, t) = putF b s y j k) (ht : ¬ t = true) : (false, a, b) = interF a b c i j k := by
  unfold interF; rw [if_pos hc, if_pos h, ← w]; unfold inter0; dsimp only; rw [← p, if_neg (fun e => ht e.2)]
theorem in_0d {a b X Q : List Vis} {c i j k y : Int} {s r t : Bool} (hc : c = 0) (h : 0 ≤ i ∧ i < (a.length : Int)) (w : (s, y, X, r) = wholeF a i) (hr : r = true) (p : (Q, t) = putF b s y j k) (ht : t = true) : (true, X, Q) = interF a b c i j k := by
  unfold interF; rw [if_pos hc, if_pos h, ← w]; unfold inter0; dsimp only; rw [← p, if_pos ⟨hr, ht⟩]
theorem in_1a {a b : List Vis} {c i j k : Int} (hc : c = 1 ∨ c = 2) (h : ¬ (0 ≤ i ∧ i < (a.length : Int) ∧ 0 ≤ j ∧ j < (b.length : Int) ∧ i + c ≤ a.length ∧ j + c ≤ b.length)) : (false, a, b) = interF a b c i j k := by
  unfold interF; rw [if_neg (by omega), if_pos hc, if_neg h]
theorem in_1b {a b P Q : List Vis} {c i j k : Int} (hc : c = 1 ∨ c = 2) (h : 0 ≤ i ∧ i < (a.length : Int) ∧ 0 ≤ j ∧ j < (b.length : Int) ∧ i + c ≤ a.length ∧ j + c ≤ b.length) (hp : P = rep2 a b i j c) (hq : Q = rep2 b a j i c) : (true, P, Q) = interF a b c i j k := by
  unfold interF; rw [if_neg (by omega), if_pos hc, if_pos h, hp, hq]
theorem in_3a {a b : List Vis} {c i j k : Int} (hc : c = 3) (h : ¬ taOk a.length b.length i j) : (false, a, b) = interF a b c i j k := by
  unfold interF; rw [if_neg (by omega), if_neg (by omega), if_pos hc]; unfold tailsF; rw [if_neg h]
theorem in_3b {a b P Q : List Vis} {c i j k : Int} (hc : c = 3) (h : taOk a.length b.length i j) (hp : P = a.take i.toNat ++ b.drop j.toNat) (hq : Q = b.take j.toNat ++ a.drop i.toNat) : (true, P, Q) = interF a b c i j k := by
  unfold interF; rw [if_neg (by omega), if_neg (by omega), if_pos hc]; unfold tailsF; rw [if_pos h, hp, hq]
theorem in_4a {a b : List Vis} {c i j k : Int} (hc : c = 4) (h : ¬ tuOk a.length b.length i j) : (false, a, b) = interF a b c i j k := by
  unfold interF; rw [if_neg (by omega), if_neg (by omega), if_neg (by omega), if_pos hc]; unfold turnedF; rw [if_neg h]
theorem in_4b {a b P Q : List Vis} {c i j k : Int} (hc : c = 4) (h : tuOk a.length b.length i j) (hp : P = a.take i.toNat ++ (b.take j.toNat).reverse) (hq : Q = (a.drop i.toNat).reverse ++ b.drop j.toNat) : (true, P, Q) = interF a b c i j k := by
  unfold interF; rw [if_neg (by omega), if_neg (by omega), if_neg (by omega), if_pos hc]; unfold turnedF; rw [if_pos h, hp, hq]
theorem in_5a {a b : List Vis} {c i j k : Int} (hc : c = 5) (h : ¬ ex2Ok a.length b.length i j) : (false, a, b) = interF a b c i j k := by
  unfold interF; rw [if_neg (by omega), if_neg (by omega), if_neg (by omega), if_neg (by omega), if_neg h]
theorem in_5b {a b X Y : List Vis} {c i j k y y' : Int} {s r s' r' : Bool} (hc : c = 5) (h : ex2Ok a.length b.length i j) (w : (s, y, X, r) = wholeF a i) (u : (s', y', Y, r') = wholeF b j) (hr : ¬ (r = true ∧ r' = true)) : (false, a, b) = interF a b c i j k := by
  unfold interF; rw [if_neg (by omega), if_neg (by omega), if_neg (by omega), if_neg (by omega), if_pos h, ← w, ← u]; unfold inter5; rw [if_neg (fun e => hr ⟨e.1, e.2.1⟩)]
theorem in_5c {a b X Y Q : List Vis} {c i j k y y' f : Int} {s r s' r' t : Bool} (hc : c = 5) (h : ex2Ok a.length b.length i j) (w : (s, y, X, r) = wholeF a i) (u : (s', y', Y, r') = wholeF b j) (p : (Q, t) = putF X s' y' f k) (hf : f = min i (X.length : Int)) (ht : ¬ t = true) : (false, a, b) = interF a b c i j k := by
  unfold interF; rw [if_neg (by omega), if_neg (by omega), if_neg (by omega), if_neg (by omega), if_pos h, ← w, ← u]; unfold inter5; dsimp only; rw [← hf, ← p, if_neg (fun e => ht e.2.2)]
theorem in_5d {a b X Y Q M : List Vis} {c i j k y y' f : Int} {s r s' r' t : Bool} (hc : c = 5) (h : ex2Ok a.length b.length i j) (w : (s, y, X, r) = wholeF a i) (u : (s', y', Y, r') = wholeF b j) (hr : r = true ∧ r' = true) (p : (Q, t) = putF X s' y' f k) (hf : f = min i (X.length : Int)) (ht : t = true) (hm : M = visF s y) : (true, Q, Y ++ M) = interF a b c i j k := by
  unfold interF; rw [if_neg (by omega), if_neg (by omega), if_neg (by omega), if_neg (by omega), if_pos h, ← w, ← u]; unfold inter5; dsimp only; rw [← hf, ← p, if_pos ⟨hr.1, hr.2, ht⟩, hm]
theorem mod6 (q : Int) : 0 ≤ IntKind.i64.wrap (Int.tmod (IntKind.u64.wrap q) 6) ∧ IntKind.i64.wrap (Int.tmod (IntKind.u64.wrap q) 6) < 6 := by
  have h0 : 0 ≤ IntKind.u64.wrap q := by
    simp only [IntKind.wrap, IntKind.bits, IntKind.signed]
    simp
    omega
  have h1 : Int.tmod (IntKind.u64.wrap q) 6 = (IntKind.u64.wrap q) % 6 := Int.tmod_eq_emod_of_nonneg h0
  rw [h1, wrap_in (by omega) (by omega)]
  omega
theorem whole_len {l X : List Vis} {i y : Int} {s r : Bool} (h : (s, y, X, r) = wholeF l i) : X.length ≤ l.length := by
  unfold wholeF at h
  injection h with _ h; injection h with _ h; injection h with h _
  rw [h]; exact List.length_filter_le _ _
end Go.SX
namespace Go.SX
theorem putOk_t {n j k : Int} : putOk n j k true ↔ ¬ (j < 0 ∨ j > n ∨ k ≤ j ∨ k > n + 1) := by unfold putOk; simp
theorem putOk_f {n j k : Int} : putOk n j k false ↔ ¬ (j < 0 ∨ j > n) := by unfold putOk; simp
end Go.SX
namespace Go.SX
theorem pt_f {l m : List Vis} {y j k : Int} (hm : m = visF false y) : (l.take j.toNat).drop (0 : Int).toNat ++ (m.take 1).drop 0 ++ (l.take (l.length : Int).toNat).drop j.toNat = putL l false y j k := by
  subst hm; simp [putL, insL, repL, visF]
theorem pt_t {l m out : List Vis} {y j k : Int} (hm : m = visF true y) (h0 : 0 ≤ j) (h1 : j ≤ (l.length : Int)) (ho : out = (l.take j.toNat).drop (0 : Int).toNat ++ (m.take 1).drop 0 ++ (l.take (l.length : Int).toNat).drop j.toNat) :
    (out.take k.toNat).drop (0 : Int).toNat ++ (m.take m.length).drop 1 ++ (out.take ((l.length : Int) + 1).toNat).drop k.toNat = putL l true y j k := by
  subst hm
  have ho' : out = insL l j [⟨2, y⟩] := by rw [ho]; simp [insL, repL, visF]
  have hl : out.length = l.length + 1 := by rw [ho']; simp [insL, repL]; omega
  rw [List.take_of_length_le (l := out) (i := ((l.length : Int) + 1).toNat) (by omega), ho']
  unfold putL
  rw [if_pos rfl]
  generalize insL l j [⟨2, y⟩] = o
  simp [insL, repL, visF]
end Go.SX
namespace Go.SX
theorem rep_join {a b P : List Vis} {i j w : Int} (h : P = (a.take i.toNat).drop (0 : Int).toNat ++ (b.take (j + w).toNat).drop j.toNat ++ (a.take (a.length : Int).toNat).drop (i + w).toNat) : P = rep2 a b i j w := by
  rw [h]; unfold rep2; simp
end Go.SX
namespace Go.SX
theorem chg_same {a b p q p' q' : List Vis} {c i j k : Int} {r r' : Bool} (hc : 0 ≤ c ∧ c < 6) (h : (r, p, q) = playF a b c i j k) (h' : (r', p', q') = interF a b c i j k) : r' = r ∧ p' = p ∧ q' = q := by
  rw [play_inter hc, ← h'] at h
  injection h with e1 h
  injection h with e2 e3
  exact ⟨e1.symm, e2.symm, e3.symm⟩
end Go.SX
