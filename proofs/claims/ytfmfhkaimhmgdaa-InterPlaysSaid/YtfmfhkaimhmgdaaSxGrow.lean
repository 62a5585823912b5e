/- append of zeros to nil. -/
import Derived.Test.YtfmfhkaimhmgdaaSxInter
set_option linter.unusedVariables false
set_option linter.unusedSimpArgs false
namespace Go.SX
open Go Go.RowKit Go.Lib
instance : Inhabited Sl := ⟨⟨.bool false, rfl⟩⟩
section
variable {V : Env} {P : Program} {Q : Exit → Act → World → Prop} {ops : Array Oper} {N : Nat} {o : Oper} {rest : List Oper} {L : List (Nat × Value)} {H R : List Res} {S : Nat → Prop} {wf : World} {K : St → Prop} {st : St} {C : World → Prop}
theorem st_nilz {t tn e : TypeId} {x y : Operand} {k sz bytes : Nat} {kq kn : IntKind} {kk : Int} {z : Value} {d : Nat} (ho : o.op = .call { callee := .builtin .append, args := #[x, y], argTypes := #[t, tn] }) (hg : o.guard = none) (hd : o.dst = some d) (hdN : Nat.blt d N = true)
    (hu : P.underlying t = some (.slice e)) (htn : P.underlying tn = some (.int kn)) (hi : (P.info? e).map (fun i => (i.zero, i.size, i.bytes)) = some (some z, sz, bytes)) (hz : z.cells.size = sz) (hsz : Nat.ble 1 sz = true) (hb0 : Nat.ble 1 bytes = true)
    (hx : lk L x = some (.slice none 0 0)) (hy : lk L y = some (.int kq kk)) (hkk : kk = (k : Int)) (hk0 : 0 < k) (hb : k * bytes ≤ 140737488355328)
    (kx : ∀ g' c' sp, k ≤ c' → c' ≤ maxLen → (sp : List Value).length = c' * sz → K ⟨(d, .slice (some ⟨g', 0, none⟩) k c') :: L, cel g' sp e :: H, S, wf⟩) : OpStep V P Q ops N o ⟨L, H, S, wf⟩ K := by
  have hsz := Nat.le_of_ble_eq_true hsz
  have hb0 := Nat.le_of_ble_eq_true hb0
  subst hkk
  refine .act hg hd hdN (by simp [ho, noSel]) (by simp [ho, Op.operands, Call.operands, known_of hx, known_of hy]) fun w hw => ?_
  obtain ⟨inf, hi2, hq⟩ := Option.map_eq_some_iff.1 hi
  simp only [Prod.mk.injEq] at hq
  obtain ⟨hq1, rfl, rfl⟩ := hq
  have hnk : k ≤ 140737488355328 := Nat.le_trans (by have := Nat.mul_le_mul_left k hb0; omega) hb
  have hr := run_append_nil_zeros (P := P) w t tn o.type e inf z kq kn hu htn hi2 hq1 k hk0 hsz (by omega) (by omega)
  have hge := grownCap_ge w k 0 e
  have hcm : grownCap w k 0 e ≤ maxLen := grownCap_le_maxLen w k 0 e (by simp only [maxLen]; omega)
  refine ⟨_, _, _, by simp only [execOp, ho, resolve, invoke, builtin, Sem.run_bind, Sem.run_pure, Result.andThen_ok, List.map_toArray, List.map_cons, List.map_nil, ev_of hx, ev_of hy, hr]; rfl, ?_, kx w.heap.size (grownCap w k 0 e) ((Builtin.zeroCells z.cells k ++ Builtin.zeroCells z.cells (grownCap w k 0 e - k)).toList) hge hcm ?_⟩
  · have h1 := hw.drew.alloc (.cells (Builtin.zeroCells z.cells k ++ Builtin.zeroCells z.cells (grownCap w k 0 e - k)) e (0, 0))
    show WW V S wf (blk w.heap.size (.cells ((Builtin.zeroCells z.cells k ++ Builtin.zeroCells z.cells (grownCap w k 0 e - k)).toList).toArray e (0, 0)) :: H) _
    rw [Array.toArray_toList]
    exact h1
  · rw [Array.length_toList, Array.size_append, size_zeroCells, size_zeroCells, hz, ← Nat.add_mul]
    congr 1
    omega
end
end Go.SX
namespace Go.SX
def taOk (n m i j : Int) : Prop := 0 ≤ i ∧ i ≤ n ∧ 0 ≤ j ∧ j ≤ m ∧ ¬ (i = n ∧ j = m)
instance (n m i j : Int) : Decidable (taOk n m i j) := by unfold taOk; infer_instance
def tailsF (a b : List Vis) (i j : Int) : Bool × List Vis × List Vis := if taOk a.length b.length i j then (true, a.take i.toNat ++ b.drop j.toNat, b.take j.toNat ++ a.drop i.toNat) else (false, a, b)
end Go.SX
namespace Go.SX
theorem ex2_len {a b p q : List Vis} {i j : Int} {r : Bool} (h : (r, p, q) = ex2F a b i j) : p.length = a.length ∧ q.length = b.length := by
  unfold ex2F at h
  split at h <;> (injection h with _ h; injection h with h1 h2; subst h1 h2; simp)
theorem cross_len {a b p q : List Vis} {i j : Int} {r : Bool} (h : (r, p, q) = crossF a b i j) : p.length = a.length ∧ q.length = b.length := by
  unfold crossF at h
  split at h <;> (injection h with _ h; injection h with h1 h2; subst h1 h2; simp)
theorem tails_len {a b p q : List Vis} {i j : Int} {r : Bool} (h : (r, p, q) = tailsF a b i j) : p.length + q.length = a.length + b.length := by
  unfold tailsF at h
  split at h
  · rename_i ok
    obtain ⟨k0, k1, k2, k3, _⟩ := ok
    injection h with _ h
    injection h with h1 h2
    subst h1 h2
    simp only [List.length_append, List.length_take, List.length_drop]; omega
  · injection h with _ h
    injection h with h1 h2
    subst h1 h2; rfl
theorem gt_set {l : List Vis} {i : Int} {x : Vis} (h0 : 0 ≤ i) (h1 : i < (l.length : Int)) : gt (l.set i.toNat x) i = x := by
  have hlt : i.toNat < l.length := by omega
  unfold gt; rw [List.getD_eq_getElem?_getD, List.getElem?_set_self hlt]; rfl
theorem gt_set_ne {l : List Vis} {i j : Int} {x : Vis} (h : i.toNat ≠ j.toNat) : gt (l.set i.toNat x) j = gt l j := by
  unfold gt; rw [List.getD_eq_getElem?_getD, List.getD_eq_getElem?_getD, List.getElem?_set_ne h]
theorem set_gt {l : List Vis} {i : Int} {x : Vis} (h0 : 0 ≤ i) (h1 : i < (l.length : Int)) : (l.set i.toNat x).set i.toNat (gt l i) = l := by
  have hlt : i.toNat < l.length := by omega
  have hg : gt l i = l[i.toNat] := by simp [gt, List.getD_eq_getElem?_getD, hlt]
  rw [List.set_set, hg, List.set_getElem_self]
theorem ex2_back {a b p1 q1 p2 q2 : List Vis} {i j : Int} {r1 r2 : Bool} (h1 : (r1, p1, q1) = ex2F a b i j) (h2 : (r2, p2, q2) = ex2F p1 q1 i j) : r2 = r1 ∧ p2 = a ∧ q2 = b := by
  obtain ⟨la, lb⟩ := ex2_len h1
  unfold ex2F at h1 h2
  rw [la, lb] at h2
  by_cases ok : ex2Ok a.length b.length i j
  · rw [if_pos ok] at h1 h2
    obtain ⟨k0, k1, k2, k3⟩ := ok
    injection h1 with e1 h1
    injection h1 with e2 e3
    subst e1 e2 e3
    injection h2 with e1 h2
    injection h2 with e2 e3
    refine ⟨e1, e2.trans ?_, e3.trans ?_⟩
    · rw [gt_set k2 k3, set_gt k0 k1]
    · rw [gt_set k0 k1, set_gt k2 k3]
  · rw [if_neg ok] at h1 h2
    injection h1 with e1 h1
    injection h1 with e2 e3
    subst e1 e2 e3
    injection h2 with e1 h2
    injection h2 with e2 e3
    exact ⟨e1, e2, e3⟩
theorem cross_back {a b p1 q1 p2 q2 : List Vis} {i j : Int} {r1 r2 : Bool} (h1 : (r1, p1, q1) = crossF a b i j) (h2 : (r2, p2, q2) = crossF p1 q1 i j) : r2 = r1 ∧ p2 = a ∧ q2 = b := by
  obtain ⟨la, lb⟩ := cross_len h1
  unfold crossF at h1 h2
  rw [la, lb] at h2
  by_cases ok : ex2Ok (a.length - 1) (b.length - 1) i j
  · rw [if_pos ok] at h1 h2
    obtain ⟨k0, k1, k2, k3⟩ := ok
    injection h1 with e1 h1
    injection h1 with e2 e3
    subst e1 e2 e3
    injection h2 with e1 h2
    injection h2 with e2 e3
    have ni : i.toNat ≠ (i + 1).toNat := by omega
    have nj : j.toNat ≠ (j + 1).toNat := by omega
    have ni' : (i + 1).toNat ≠ i.toNat := by omega
    have nj' : (j + 1).toNat ≠ j.toNat := by omega
    have A1 : ∀ (l : List Vis) x, l.length = b.length → gt (l.set (j + 1).toNat x) (j + 1) = x := fun l x h => gt_set (by omega) (by omega)
    have A2 : ∀ (l : List Vis) x, l.length = a.length → gt (l.set (i + 1).toNat x) (i + 1) = x := fun l x h => gt_set (by omega) (by omega)
    refine ⟨e1, e2.trans ?_, e3.trans ?_⟩
    · rw [gt_set_ne nj', gt_set k2 (by omega), List.set_comm _ _ ni', set_gt k0 (by omega)]
      rw [gt_set_ne nj, gt_set_ne nj, A1 _ _ (by simp only [List.length_set]), gt_set_ne ni]
      exact set_gt (by omega) (by omega)
    · rw [gt_set_ne ni', gt_set k0 (by omega), List.set_comm _ _ nj', set_gt k2 (by omega)]
      rw [gt_set_ne ni, gt_set_ne ni, A2 _ _ (by simp only [List.length_set]), gt_set_ne nj]
      exact set_gt (by omega) (by omega)
  · rw [if_neg ok] at h1 h2
    injection h1 with e1 h1
    injection h1 with e2 e3
    subst e1 e2 e3
    injection h2 with e1 h2
    injection h2 with e2 e3
    exact ⟨e1, e2, e3⟩
theorem tails_back {a b p1 q1 p2 q2 : List Vis} {i j : Int} {r2 : Bool} (h1 : (true, p1, q1) = tailsF a b i j) (h2 : (r2, p2, q2) = tailsF p1 q1 i j) (hn : ¬ (i = p1.length ∧ j = q1.length)) : r2 = true ∧ p2 = a ∧ q2 = b := by
  unfold tailsF at h1
  by_cases ok : taOk a.length b.length i j
  · rw [if_pos ok] at h1
    obtain ⟨k0, k1, k2, k3, _⟩ := ok
    injection h1 with _ h1
    injection h1 with e2 e3
    have hp : (a.take i.toNat).length = i.toNat := by rw [List.length_take]; omega
    have hq : (b.take j.toNat).length = j.toNat := by rw [List.length_take]; omega
    have lp : i ≤ p1.length := by rw [e2, List.length_append, hp]; omega
    have lq : j ≤ q1.length := by rw [e3, List.length_append, hq]; omega
    unfold tailsF at h2
    rw [if_pos ⟨k0, lp, k2, lq, hn⟩] at h2
    injection h2 with e1 h2
    injection h2 with e4 e5
    subst e2 e3
    rw [List.take_left' hp, List.drop_left' hq, List.take_append_drop] at e4
    rw [List.take_left' hq, List.drop_left' hp, List.take_append_drop] at e5
    exact ⟨e1, e4, e5⟩
  · rw [if_neg ok] at h1
    injection h1 with h _
    cases h
end Go.SX
namespace Go.SX
def tuOk (n m i j : Int) : Prop := 0 ≤ i ∧ i ≤ n ∧ 0 ≤ j ∧ j ≤ m ∧ n + m ≠ 0
instance (n m i j : Int) : Decidable (tuOk n m i j) := by unfold tuOk; infer_instance
def turnedF (a b : List Vis) (i j : Int) : Bool × List Vis × List Vis := if tuOk a.length b.length i j then (true, a.take i.toNat ++ (b.take j.toNat).reverse, (a.drop i.toNat).reverse ++ b.drop j.toNat) else (false, a, b)
end Go.SX
namespace Go.SX
def swOk (n k f L : Int) : Prop := ¬ (L = 2 ∧ (k ≤ f ∨ k > n + 1))
instance (n k f L : Int) : Decidable (swOk n k f L) := by unfold swOk; infer_instance
def swIns (X T : List Vis) (i k : Int) : List Vis := if (T.length : Int) = 2 then insL (insL X (min i X.length) [gt T 0]) k [gt T 1] else insL X (min i X.length) [gt T 0]
def swapH (a b : List Vis) (i k : Int) (o p : Bool) (mine theirs : List Vis) (q1 q2 : List Vis × Bool) : Bool × List Vis × List Vis :=
  if o = true ∧ p = true ∧ q1.2 = true ∧ q2.2 = true then
    if swOk q1.1.length k (min i q1.1.length) theirs.length then (true, swIns q1.1 theirs i k, q2.1 ++ mine) else (false, a, b)
  else (false, a, b)
def swapG (a b : List Vis) (i k : Int) (t u : Bool × Int × Bool) : Bool × List Vis × List Vis := swapH a b i k t.2.2 u.2.2 (visF t.1 t.2.1) (visF u.1 u.2.1) (takeG a (visF t.1 t.2.1)) (takeG b (visF u.1 u.2.1))
def swapF (a b : List Vis) (i j k : Int) : Bool × List Vis × List Vis := if ex2Ok a.length b.length i j then swapG a b i k (ofF (gt a i).kind (gt a i).item) (ofF (gt b j).kind (gt b j).item) else (false, a, b)
theorem swap_ {a b : List Vis} {i j k : Int} {s s' o p w w' : Bool} {y y' : Int} {M T X Y : List Vis} {z : Bool × List Vis × List Vis} (h0 : ex2Ok a.length b.length i j) (h1 : (s, y, o) = ofF (gt a i).kind (gt a i).item) (h2 : (s', y', p) = ofF (gt b j).kind (gt b j).item) (h3 : M = visF s y) (h4 : T = visF s' y') (h5 : (X, w) = takeG a M) (h6 : (Y, w') = takeG b T) (h : z = swapH a b i k o p M T (X, w) (Y, w')) : z = swapF a b i j k := by
  unfold swapF swapG
  rw [if_pos h0, ← h1, ← h2]
  show z = swapH a b i k o p (visF s y) (visF s' y') (takeG a (visF s y)) (takeG b (visF s' y'))
  rw [← h3, ← h4, ← h5, ← h6]; exact h
theorem swap_no {a b : List Vis} {i j k : Int} (h : ¬ ex2Ok a.length b.length i j) : (false, a, b) = swapF a b i j k := by unfold swapF; rw [if_neg h]
end Go.SX
namespace Go.SX
def playF (a b : List Vis) (c i j k : Int) : Bool × List Vis × List Vis := if c = 0 then relF a b i j k else if c = 1 then ex2F a b i j else if c = 2 then crossF a b i j else if c = 3 then tailsF a b i j else if c = 4 then turnedF a b i j else swapF a b i j k
theorem take_sum {l s X : List Vis} (h : (X, true) = takeG l s) : X.length + s.length = l.length := by
  induction s generalizing l with
  | nil => rw [takeG] at h; injection h with e _; rw [e]; rfl
  | cons v s ih =>
    rw [takeG] at h
    split at h
    · injection h with _ e; cases e
    · rename_i hc
      have h1 := ih h
      have h2 := (idx_lt (l := l) (v := v))
      simp only [not_or] at hc
      simp only [List.length_append, List.length_take, List.length_drop, List.length_cons] at h1 ⊢
      omega
theorem ins_len {l v : List Vis} {i : Int} (h0 : 0 ≤ i) (h1 : i ≤ (l.length : Int)) : (insL l i v).length = l.length + v.length := by
  unfold insL repL
  simp only [List.length_append, List.length_take, List.length_drop]; omega
/-- What is said on sizes. -/
def Sized (a b p q : List Vis) (c i j : Int) (r : Bool) : Prop := p.length + q.length = a.length + b.length ∧ (r = false → p.length = a.length) ∧ ((c = 1 ∨ c = 2) → p.length = a.length) ∧ (r = true → c = 3 → (p.length : Int) = i + b.length - j) ∧ (r = true → c = 4 → (p.length : Int) = i + j)
theorem sized_same {a b : List Vis} {c i j : Int} : Sized a b a b c i j false := ⟨rfl, fun _ => rfl, fun _ => rfl, fun h => (by cases h), fun h => (by cases h)⟩
theorem sized_rel {a b p q : List Vis} {i j k : Int} {r : Bool} (h : (r, p, q) = relF a b i j k) : Sized a b p q 0 i j r := by
  unfold relF relG relH at h
  split at h
  · split at h
    · rename_i hc
      split at h
      · rename_i ho
        obtain ⟨k0, k1, k2⟩ := ho
        injection h with e1 h
        injection h with e2 e3
        have hT : ((takeG a (visF (ofF (gt a i).kind (gt a i).item).1 (ofF (gt a i).kind (gt a i).item).2.1)).1, true) = takeG a (visF (ofF (gt a i).kind (gt a i).item).1 (ofF (gt a i).kind (gt a i).item).2.1) := by rw [← hc.2]
        have hs := take_sum hT
        have hv := visF_len (L := visF (ofF (gt a i).kind (gt a i).item).1 (ofF (gt a i).kind (gt a i).item).2.1) rfl
        rw [← e2] at hs
        have hq : q.length = b.length + (visF (ofF (gt a i).kind (gt a i).item).1 (ofF (gt a i).kind (gt a i).item).2.1).length := by
          rw [e3]
          split
          · rename_i h2
            have h3 := k2 h2
            rw [ins_len (by omega) (by rw [ins_len k0 k1]; simp; omega), ins_len k0 k1]
            simp; omega
          · rw [ins_len k0 k1]; simp; omega
        exact ⟨by omega, fun hr => by (rw [e1] at hr; cases hr), fun hc => by omega, fun _ hc => by omega, fun _ hc => by omega⟩
      · injection h with e1 h; injection h with e2 e3; subst e1 e2 e3; exact sized_same
    · injection h with e1 h; injection h with e2 e3; subst e1 e2 e3; exact sized_same
  · injection h with e1 h; injection h with e2 e3; subst e1 e2 e3; exact sized_same
theorem sized_swap {a b p q : List Vis} {i j k : Int} {r : Bool} (h : (r, p, q) = swapF a b i j k) : Sized a b p q 5 i j r := by
  unfold swapF swapG swapH at h
  split at h
  · rename_i hx
    obtain ⟨x0, x1, x2, x3⟩ := hx
    split at h
    · rename_i hc
      split at h
      · rename_i ho
        injection h with e1 h
        injection h with e2 e3
        generalize hM : visF (ofF (gt a i).kind (gt a i).item).1 (ofF (gt a i).kind (gt a i).item).2.1 = M at *
        generalize hT : visF (ofF (gt b j).kind (gt b j).item).1 (ofF (gt b j).kind (gt b j).item).2.1 = T at *
        have hs1 := take_sum (l := a) (s := M) (X := (takeG a M).1) (by rw [← hc.2.2.1])
        have hs2 := take_sum (l := b) (s := T) (X := (takeG b T).1) (by rw [← hc.2.2.2])
        have hv := visF_len hT.symm
        have hp : p.length = (takeG a M).1.length + T.length := by
          rw [e2]
          unfold swIns
          unfold swOk at ho
          split
          · rename_i h2
            rw [ins_len (by omega) (by rw [ins_len (by omega) (by omega)]; simp; omega), ins_len (by omega) (by omega)]
            simp; omega
          · rw [ins_len (by omega) (by omega)]; simp; omega
        have hq : q.length = (takeG b T).1.length + M.length := by rw [e3, List.length_append]
        exact ⟨by omega, fun hr => by (rw [e1] at hr; cases hr), fun hc => by omega, fun _ hc => by omega, fun _ hc => by omega⟩
      · injection h with e1 h; injection h with e2 e3; subst e1 e2 e3; exact sized_same
    · injection h with e1 h; injection h with e2 e3; subst e1 e2 e3; exact sized_same
  · injection h with e1 h; injection h with e2 e3; subst e1 e2 e3; exact sized_same
end Go.SX
namespace Go.SX
theorem sized_play {a b p q : List Vis} {c i j k : Int} {r : Bool} (h : (r, p, q) = playF a b c i j k) : Sized a b p q c i j r := by
  unfold playF at h
  split at h
  · rename_i hc; subst hc; exact sized_rel h
  split at h
  · rename_i hc; subst hc
    obtain ⟨l1, l2⟩ := ex2_len h
    exact ⟨by omega, fun _ => l1, fun _ => l1, fun _ hc => by omega, fun _ hc => by omega⟩
  split at h
  · rename_i hc; subst hc
    obtain ⟨l1, l2⟩ := cross_len h
    exact ⟨by omega, fun _ => l1, fun _ => l1, fun _ hc => by omega, fun _ hc => by omega⟩
  split at h
  · rename_i hc; subst hc
    have hs := tails_len h
    unfold tailsF at h
    split at h
    · rename_i ok
      obtain ⟨k0, k1, k2, k3, _⟩ := ok
      injection h with e1 h
      injection h with e2 e3
      refine ⟨hs, fun hr => (by rw [e1] at hr; cases hr), fun hc => by omega, fun _ _ => ?_, fun _ hc => by omega⟩
      rw [e2, List.length_append, List.length_take, List.length_drop]; omega
    · injection h with e1 h; injection h with e2 e3; subst e1 e2 e3; exact sized_same
  split at h
  · rename_i hc; subst hc
    unfold turnedF at h
    split at h
    · rename_i ok
      obtain ⟨k0, k1, k2, k3, _⟩ := ok
      injection h with e1 h
      injection h with e2 e3
      have l1 : p.length = i.toNat + j.toNat := by rw [e2]; simp only [List.length_append, List.length_take, List.length_reverse]; omega
      have l2 : q.length = (a.length - i.toNat) + (b.length - j.toNat) := by rw [e3]; simp only [List.length_append, List.length_drop, List.length_reverse]
      exact ⟨by omega, fun hr => (by rw [e1] at hr; cases hr), fun hc => by omega, fun _ hc => by omega, fun _ _ => by omega⟩
    · injection h with e1 h; injection h with e2 e3; subst e1 e2 e3; exact sized_same
  · rename_i c0 c1 c2 c3 c4
    obtain ⟨h1, h2, h3, h4, h5⟩ := sized_swap h
    exact ⟨h1, h2, fun hc => by omega, fun _ hc => by omega, fun _ hc => by omega⟩
end Go.SX
namespace Go.SX
theorem play_rng {a b p q : List Vis} {c i j k : Int} (h : (true, p, q) = playF a b c i j k) : (c = 3 ∨ c = 4) → 0 ≤ i ∧ i ≤ (a.length : Int) ∧ 0 ≤ j ∧ j ≤ (b.length : Int) := by
  intro hc
  unfold playF at h
  rw [if_neg (by omega), if_neg (by omega), if_neg (by omega)] at h
  split at h
  · unfold tailsF at h
    split at h
    · rename_i ok; exact ⟨ok.1, ok.2.1, ok.2.2.1, ok.2.2.2.1⟩
    · injection h with e _; cases e
  · rw [if_pos (by omega)] at h
    unfold turnedF at h
    split at h
    · rename_i ok; exact ⟨ok.1, ok.2.1, ok.2.2.1, ok.2.2.2.1⟩
    · injection h with e _; cases e
end Go.SX
namespace Go.SX
theorem rev_next {l X : List Vis} {x : Int} (h : X = (l.drop (x + 1).toNat).reverse) (h0 : 0 ≤ x) (h1 : x < (l.length : Int)) : X ++ [gt l x] = (l.drop (x - 1 + 1).toNat).reverse := by
  have e : l.drop (x - 1 + 1).toNat = gt l x :: l.drop (x + 1).toNat := by rw [show x - 1 + 1 = x from by omega]; exact tk_drop h0 h1
  rw [e, List.reverse_cons, h]
end Go.SX
namespace Go.SX
/-- Is it none of a task's visits? -/
def offV (v : List Vis) (x : Vis) : Bool := decide (x ≠ gt v 0 ∧ x ≠ gt v ((v.length : Int) - 1))
theorem flt_step {l X v : List Vis} {x : Int} (h : X = (l.take x.toNat).filter (offV v)) (h0 : 0 ≤ x) (h1 : x < (l.length : Int)) : (offV v (gt l x) = true → X ++ [gt l x] = (l.take (x + 1).toNat).filter (offV v)) ∧ (offV v (gt l x) = false → X = (l.take (x + 1).toNat).filter (offV v)) := by
  rw [take_gt h0 h1, List.filter_append, h]
  refine ⟨fun e => ?_, fun e => ?_⟩
  · rw [List.filter_cons_of_pos e]; rfl
  · rw [List.filter_cons_of_neg (by simp [e])]; simp
theorem off_iff {v : List Vis} {x : Vis} : offV v x = true ↔ ¬ (x.kind = (gt v 0).kind ∧ x.item = (gt v 0).item) ∧ ¬ (x.kind = (gt v ((v.length : Int) - 1)).kind ∧ x.item = (gt v ((v.length : Int) - 1)).item) := by
  unfold offV
  rw [decide_eq_true_iff]
  refine ⟨fun ⟨h1, h2⟩ => ⟨fun e => h1 (vis_ext e.1 e.2), fun e => h2 (vis_ext e.1 e.2)⟩, fun ⟨h1, h2⟩ => ⟨fun e => h1 (by rw [e]; exact ⟨rfl, rfl⟩), fun e => h2 (by rw [e]; exact ⟨rfl, rfl⟩)⟩⟩
end Go.SX
