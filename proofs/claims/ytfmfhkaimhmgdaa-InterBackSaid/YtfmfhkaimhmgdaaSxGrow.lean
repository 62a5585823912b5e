/- append of zeros to nil. -/
import Derived.Test.YtfmfhkaimhmgdaaSxInter
set_option linter.unusedVariables false
set_option linter.unusedSimpArgs false
namespace Go.SX
open Go Go.RowKit Go.Lib
instance : Inhabited Sl := ⟨⟨.bool false, rfl⟩⟩
section
variable {V : Env} {P : Program} {Q : Exit → Act → World → Prop} {ops : Array Oper} {N : Nat} {o : Oper} {rest : List Oper} {L : List (Nat × Value)} {H R : List Res} {S : Nat → Prop} {wf : World} {K : St → Prop} {st : St} {C : World → Prop}
theorem st_nilz {t tn e : TypeId} {x y : Operand} {k sz bytes : Nat} {kq kn : IntKind} {kk : Int} {z : Value} {d : Nat} (ho : o.op = .call { callee := .builtin .append, args := #[x, y], argTypes := #[t, tn] }) (hg : o.guard = none) (hd : o.dst = some d) (hdN : Nat.blt d N = true)
    (hu : P.underlying t = some (.slice e)) (htn : P.underlying tn = some (.int kn)) (hi : (P.info? e).map (fun i => (i.zero, i.size, i.bytes)) = some (some z, sz, bytes)) (hz : z.cells.size = sz) (hsz : Nat.ble 1 sz = true) (hb0 : Nat.ble 1 bytes = true)
    (hx : lk L x = some (.slice none 0 0)) (hy : lk L y = some (.int kq kk)) (hkk : kk = (k : Int)) (hk0 : 0 < k) (hb : k * bytes ≤ 140737488355328)
    (kx : ∀ g' c' sp, k ≤ c' → c' ≤ maxLen → (sp : List Value).length = c' * sz → K ⟨(d, .slice (some ⟨g', 0, none⟩) k c') :: L, cel g' sp e :: H, S, wf⟩) : OpStep V P Q ops N o ⟨L, H, S, wf⟩ K := by
  have hsz := Nat.le_of_ble_eq_true hsz
  have hb0 := Nat.le_of_ble_eq_true hb0
  subst hkk
  refine .act hg hd hdN (by simp [ho, noSel]) (by simp [ho, Op.operands, Call.operands, known_of hx, known_of hy]) fun w hw => ?_
  obtain ⟨inf, hi2, hq⟩ := Option.map_eq_some_iff.1 hi
  simp only [Prod.mk.injEq] at hq
  obtain ⟨hq1, rfl, rfl⟩ := hq
  have hnk : k ≤ 140737488355328 := Nat.le_trans (by have := Nat.mul_le_mul_left k hb0; omega) hb
  have hr := run_append_nil_zeros (P := P) w t tn o.type e inf z kq kn hu htn hi2 hq1 k hk0 hsz (by omega) (by omega)
  have hge := grownCap_ge w k 0 e
  have hcm : grownCap w k 0 e ≤ maxLen := grownCap_le_maxLen w k 0 e (by simp only [maxLen]; omega)
  refine ⟨_, _, _, by simp only [execOp, ho, resolve, invoke, builtin, Sem.run_bind, Sem.run_pure, Result.andThen_ok, List.map_toArray, List.map_cons, List.map_nil, ev_of hx, ev_of hy, hr]; rfl, ?_, kx w.heap.size (grownCap w k 0 e) ((Builtin.zeroCells z.cells k ++ Builtin.zeroCells z.cells (grownCap w k 0 e - k)).toList) hge hcm ?_⟩
  · have h1 := hw.drew.alloc (.cells (Builtin.zeroCells z.cells k ++ Builtin.zeroCells z.cells (grownCap w k 0 e - k)) e (0, 0))
    show WW V S wf (blk w.heap.size (.cells ((Builtin.zeroCells z.cells k ++ Builtin.zeroCells z.cells (grownCap w k 0 e - k)).toList).toArray e (0, 0)) :: H) _
    rw [Array.toArray_toList]
    exact h1
  · rw [Array.length_toList, Array.size_append, size_zeroCells, size_zeroCells, hz, ← Nat.add_mul]
    congr 1
    omega
end
end Go.SX
namespace Go.SX
def taOk (n m i j : Int) : Prop := 0 ≤ i ∧ i ≤ n ∧ 0 ≤ j ∧ j ≤ m ∧ ¬ (i = n ∧ j = m)
instance (n m i j : Int) : Decidable (taOk n m i j) := by unfold taOk; infer_instance
def tailsF (a b : List Vis) (i j : Int) : Bool × List Vis × List Vis := if taOk a.length b.length i j then (true, a.take i.toNat ++ b.drop j.toNat, b.take j.toNat ++ a.drop i.toNat) else (false, a, b)
end Go.SX
namespace Go.SX
theorem ex2_len {a b p q : List Vis} {i j : Int} {r : Bool} (h : (r, p, q) = ex2F a b i j) : p.length = a.length ∧ q.length = b.length := by
  unfold ex2F at h
  split at h <;> (injection h with _ h; injection h with h1 h2; subst h1 h2; simp)
theorem cross_len {a b p q : List Vis} {i j : Int} {r : Bool} (h : (r, p, q) = crossF a b i j) : p.length = a.length ∧ q.length = b.length := by
  unfold crossF at h
  split at h <;> (injection h with _ h; injection h with h1 h2; subst h1 h2; simp)
theorem tails_len {a b p q : List Vis} {i j : Int} {r : Bool} (h : (r, p, q) = tailsF a b i j) : p.length + q.length = a.length + b.length := by
  unfold tailsF at h
  split at h
  · rename_i ok
    obtain ⟨k0, k1, k2, k3, _⟩ := ok
    injection h with _ h
    injection h with h1 h2
    subst h1 h2
    simp only [List.length_append, List.length_take, List.length_drop]; omega
  · injection h with _ h
    injection h with h1 h2
    subst h1 h2; rfl
theorem gt_set {l : List Vis} {i : Int} {x : Vis} (h0 : 0 ≤ i) (h1 : i < (l.length : Int)) : gt (l.set i.toNat x) i = x := by
  have hlt : i.toNat < l.length := by omega
  unfold gt; rw [List.getD_eq_getElem?_getD, List.getElem?_set_self hlt]; rfl
theorem gt_set_ne {l : List Vis} {i j : Int} {x : Vis} (h : i.toNat ≠ j.toNat) : gt (l.set i.toNat x) j = gt l j := by
  unfold gt; rw [List.getD_eq_getElem?_getD, List.getD_eq_getElem?_getD, List.getElem?_set_ne h]
theorem set_gt {l : List Vis} {i : Int} {x : Vis} (h0 : 0 ≤ i) (h1 : i < (l.length : Int)) : (l.set i.toNat x).set i.toNat (gt l i) = l := by
  have hlt : i.toNat < l.length := by omega
  have hg : gt l i = l[i.toNat] := by simp [gt, List.getD_eq_getElem?_getD, hlt]
  rw [List.set_set, hg, List.set_getElem_self]
theorem ex2_back {a b p1 q1 p2 q2 : List Vis} {i j : Int} {r1 r2 : Bool} (h1 : (r1, p1, q1) = ex2F a b i j) (h2 : (r2, p2, q2) = ex2F p1 q1 i j) : r2 = r1 ∧ p2 = a ∧ q2 = b := by
  obtain ⟨la, lb⟩ := ex2_len h1
  unfold ex2F at h1 h2
  rw [la, lb] at h2
  by_cases ok : ex2Ok a.length b.length i j
  · rw [if_pos ok] at h1 h2
    obtain ⟨k0, k1, k2, k3⟩ := ok
    injection h1 with e1 h1
    injection h1 with e2 e3
    subst e1 e2 e3
    injection h2 with e1 h2
    injection h2 with e2 e3
    refine ⟨e1, e2.trans ?_, e3.trans ?_⟩
    · rw [gt_set k2 k3, set_gt k0 k1]
    · rw [gt_set k0 k1, set_gt k2 k3]
  · rw [if_neg ok] at h1 h2
    injection h1 with e1 h1
    injection h1 with e2 e3
    subst e1 e2 e3
    injection h2 with e1 h2
    injection h2 with e2 e3
    exact ⟨e1, e2, e3⟩
theorem cross_back {a b p1 q1 p2 q2 : List Vis} {i j : Int} {r1 r2 : Bool} (h1 : (r1, p1, q1) = crossF a b i j) (h2 : (r2, p2, q2) = crossF p1 q1 i j) : r2 = r1 ∧ p2 = a ∧ q2 = b := by
  obtain ⟨la, lb⟩ := cross_len h1
  unfold crossF at h1 h2
  rw [la, lb] at h2
  by_cases ok : ex2Ok (a.length - 1) (b.length - 1) i j
  · rw [if_pos ok] at h1 h2
    obtain ⟨k0, k1, k2, k3⟩ := ok
    injection h1 with e1 h1
    injection h1 with e2 e3
    subst e1 e2 e3
    injection h2 with e1 h2
    injection h2 with e2 e3
    have ni : i.toNat ≠ (i + 1).toNat := by omega
    have nj : j.toNat ≠ (j + 1).toNat := by omega
    have ni' : (i + 1).toNat ≠ i.toNat := by omega
    have nj' : (j + 1).toNat ≠ j.toNat := by omega
    have A1 : ∀ (l : List Vis) x, l.length = b.length → gt (l.set (j + 1).toNat x) (j + 1) = x := fun l x h => gt_set (by omega) (by omega)
    have A2 : ∀ (l : List Vis) x, l.length = a.length → gt (l.set (i + 1).toNat x) (i + 1) = x := fun l x h => gt_set (by omega) (by omega)
    refine ⟨e1, e2.trans ?_, e3.trans ?_⟩
    · rw [gt_set_ne nj', gt_set k2 (by omega), List.set_comm _ _ ni', set_gt k0 (by omega)]
      rw [gt_set_ne nj, gt_set_ne nj, A1 _ _ (by simp only [List.length_set]), gt_set_ne ni]
      exact set_gt (by omega) (by omega)
    · rw [gt_set_ne ni', gt_set k0 (by omega), List.set_comm _ _ nj', set_gt k2 (by omega)]
      rw [gt_set_ne ni, gt_set_ne ni, A2 _ _ (by simp only [List.length_set]), gt_set_ne nj]
      exact set_gt (by omega) (by omega)
  · rw [if_neg ok] at h1 h2
    injection h1 with e1 h1
    injection h1 with e2 e3
    subst e1 e2 e3
    injection h2 with e1 h2
    injection h2 with e2 e3
    exact ⟨e1, e2, e3⟩
theorem tails_back {a b p1 q1 p2 q2 : List Vis} {i j : Int} {r2 : Bool} (h1 : (true, p1, q1) = tailsF a b i j) (h2 : (r2, p2, q2) = tailsF p1 q1 i j) (hn : ¬ (i = p1.length ∧ j = q1.length)) : r2 = true ∧ p2 = a ∧ q2 = b := by
  unfold tailsF at h1
  by_cases ok : taOk a.length b.length i j
  · rw [if_pos ok] at h1
    obtain ⟨k0, k1, k2, k3, _⟩ := ok
    injection h1 with _ h1
    injection h1 with e2 e3
    have hp : (a.take i.toNat).length = i.toNat := by rw [List.length_take]; omega
    have hq : (b.take j.toNat).length = j.toNat := by rw [List.length_take]; omega
    have lp : i ≤ p1.length := by rw [e2, List.length_append, hp]; omega
    have lq : j ≤ q1.length := by rw [e3, List.length_append, hq]; omega
    unfold tailsF at h2
    rw [if_pos ⟨k0, lp, k2, lq, hn⟩] at h2
    injection h2 with e1 h2
    injection h2 with e4 e5
    subst e2 e3
    rw [List.take_left' hp, List.drop_left' hq, List.take_append_drop] at e4
    rw [List.take_left' hq, List.drop_left' hp, List.take_append_drop] at e5
    exact ⟨e1, e4, e5⟩
  · rw [if_neg ok] at h1
    injection h1 with h _
    cases h
end Go.SX
