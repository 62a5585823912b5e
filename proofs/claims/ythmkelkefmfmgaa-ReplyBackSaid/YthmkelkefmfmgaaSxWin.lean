/- A window of a block: its elements are told; lists turned round. -/
import Derived.Test.YthmkelkefmfmgaaSxInner
set_option linter.unusedVariables false
set_option linter.unusedSimpArgs false
set_option linter.unusedSectionVars false
namespace Go.SX
open Go Go.RowKit

section
variable {V : Env} {P : Program} {Q : Exit → Act → World → Prop} {ops : Array Oper} {N : Nat} {o : Oper} {rest : List Oper} {L : List (Nat × Value)} {H R : List Res} {S : Nat → Prop} {wf : World} {K : St → Prop} {st : St} {C : World → Prop}
variable {α : Type} [Inhabited α] {E : Enc α} {a b : List Value} {m : List α} {g e off : Nat} {i : Int}

theorem SC.exitq {id : Nat} {Q1 : Act → World → Prop} (hQ : ∀ a w, Q1 a w → Q (.exit id) a w) (h : SQ V Q1 N st) : SC V P Q N (.exit id) st := fun a w hs hw => wp_exit (hQ a w (h a w hs hw))
theorem SC.skipq {Q1 : Act → World → Prop} (hQ : ∀ a w, Q1 a w → Q .normal a w) (h : SQ V Q1 N st) : SC V P Q N .skip st := fun a w hs hw => wp_skip (hQ a w (h a w hs hw))
def boolB : BinOp → Bool → Bool → Option Bool
  | .eql, a, b => some (a == b)
  | .neq, a, b => some (a != b)
  | _, _, _ => none
theorem ev_bcmp {op : BinOp} {t t' : TypeId} {x y : Operand} {a b r : Bool} (ho : o.op = .binOp op t x y t') (hu : P.underlying t = some .bool) (hx : lk L x = some (.bool a)) (hy : lk L y = some (.bool b)) (hr : boolB op a b = some r) : Ev P C L o (.bool r) :=
  ev_bin ho hx hy (fun w => by
    have h : (Op.equalIn Op.maxDepth t (.bool a) (.bool b)).run P w = .ok (a == b) w := by
      have h0 : ∀ d, (Op.equalIn (d + 1) t (.bool a) (.bool b)).run P w = .ok (a == b) w := fun d => by simp [Op.equalIn, run_underlying hu]
      exact h0 9999
    cases op <;> simp [boolB] at hr <;> subst hr <;> simp [eqGuard, binOp, Op.equal, h, pure, bne])
/-- A call that is no value. -/
theorem st_calle {C : List Res} {f : FuncId} {x : Array Operand} {ts : Array TypeId} {args : List Value} {post : Value → List Res → Prop} (ho : o.op = .call { callee := .value (.func f), args := x, argTypes := ts }) (hg : o.guard = none) (hd : o.dst = none)
    (hf : hasBody P f = true) (ha : lkAll L x.toList = some args) (hp : PickL H C R) (hT : TR0 P f args C S wf post)
    (k : ∀ v C', post v C' → K ⟨L, C' ++ R, S, wf⟩) : OpStep V P Q ops N o ⟨L, H, S, wf⟩ K := by
  have hc := run_call ho hf ha
  intro a w hs hw J hJ
  unfold Step1
  rw [if_pos (by simp [Region.wanted, hg])]
  refine .inl ?_
  unfold Oper.wp
  rw [exec_ev hs hc.1 hc.2.1, hc.2.2, Oper.upon_enter]
  have hw1 := hw.perm hp.perm
  refine (hT w hw1.enter).mono fun e w' hq => ?_
  obtain ⟨v, C', S', wf', rfl, ⟨h1, rfl, rfl⟩, _, h4⟩ := hq
  show J (a.put o.dst v) w'
  rw [hd]
  exact hJ _ (k v C' h1) _ _ hs (hw1.callS h4)
theorem win_get (h0 : 0 ≤ i) (h1 : i < (m.length : Int)) (ha : a.length = off) : ((a ++ flat E m ++ b).drop (off + i.toNat * E.sz)).take (E.enc (gt m i)).length = E.enc (gt m i) := by
  have hi : i.toNat < m.length := by omega
  have hm : m = m.take i.toNat ++ gt m i :: m.drop (i.toNat + 1) := by
    have hg : gt m i = m[i.toNat] := by simp [gt, List.getD_eq_getElem?_getD, hi]
    rw [hg, ← List.drop_eq_getElem_cons hi, List.take_append_drop]
  have hl : (a ++ flat E (m.take i.toNat)).length = off + i.toNat * E.sz := by
    rw [List.length_append, flat_length, List.length_take, Nat.min_eq_left (by omega), ha]
  have h2 : a ++ flat E m ++ b = (a ++ flat E (m.take i.toNat)) ++ (E.enc (gt m i) ++ (flat E (m.drop (i.toNat + 1)) ++ b)) := by
    conv => lhs; rw [hm]
    simp [flat_append, flat_cons]
  rw [h2, ← hl, List.drop_left, List.take_left]
theorem win_el (k : Nat) (hk : H[k]? = some (cel g (a ++ flat E m ++ b) e)) (ha : a.length = off) (h0 : 0 ≤ i) (h1 : i < (m.length : Int)) : ∀ w, WW V S wf H w → At w g (off + i.toNat * E.sz) (E.enc (gt m i)) := fun w hw => by
  have := At.elemn (C := WW V S wf H) (At.whole k hk) (off + i.toNat * E.sz) (win_get (E := E) (b := b) h0 h1 ha) w hw
  rwa [Nat.zero_add] at this
theorem win_set (z : α) (h0 : 0 ≤ i) (h1 : i < (m.length : Int)) (ha : a.length = off) : (a ++ flat E m ++ b).take (off + i.toNat * E.sz) ++ E.enc z ++ (a ++ flat E m ++ b).drop (off + i.toNat * E.sz + (E.enc z).length) = a ++ flat E (m.set i.toNat z) ++ b := by
  have hi : i.toNat < m.length := by omega
  have hm : m = m.take i.toNat ++ gt m i :: m.drop (i.toNat + 1) := by
    have hg : gt m i = m[i.toNat] := by simp [gt, List.getD_eq_getElem?_getD, hi]
    rw [hg, ← List.drop_eq_getElem_cons hi, List.take_append_drop]
  have hl : (a ++ flat E (m.take i.toNat)).length = off + i.toNat * E.sz := by
    rw [List.length_append, flat_length, List.length_take, Nat.min_eq_left (by omega), ha]
  have h2 : a ++ flat E m ++ b = (a ++ flat E (m.take i.toNat)) ++ (E.enc (gt m i) ++ (flat E (m.drop (i.toNat + 1)) ++ b)) := by
    conv => lhs; rw [hm]
    simp [flat_append, flat_cons]
  have h3 : (E.enc z).length = (E.enc (gt m i)).length := by rw [E.len, E.len]
  have h4 : m.set i.toNat z = m.take i.toNat ++ z :: m.drop (i.toNat + 1) := List.set_eq_take_append_cons_drop.trans (by rw [if_pos hi])
  have aux : ∀ X Y Z W : List Value, W.length = Y.length → (X ++ (Y ++ Z)).take X.length ++ W ++ (X ++ (Y ++ Z)).drop (X.length + W.length) = X ++ W ++ Z := by
    intro X Y Z W h
    rw [List.take_left, h, ← List.length_append, ← List.append_assoc X Y Z, List.drop_left]
  rw [h2, ← hl, aux _ _ _ _ h3, h4]
  simp [flat_append, flat_cons]
theorem st_setwin {t p : TypeId} {x y : Operand} {ag : Bool} {vs : List Value} (z : α) (ho : o.op = .store t x y) (hg : o.guard = none) (hd : o.dst = none) (ht : ty P t = some (ag, vs.length)) (hx : lk L x = some (.pointer (some ⟨g, p, none⟩))) (hy : lk L y = some (.agg vs.toArray))
    (hv : vs.all (·.oneCell') = true) (hp : Pick H (cel g (a ++ flat E m ++ b) e) R) (hpp : p = off + i.toNat * E.sz) (ha : a.length = off) (h0 : 0 ≤ i) (h1 : i < (m.length : Int)) (hz : E.enc z = vs)
    (k : K ⟨L, cel g (a ++ flat E (m.set i.toNat z) ++ b) e :: R, S, wf⟩) : OpStep V P Q ops N o ⟨L, H, S, wf⟩ K := by
  subst hpp hz
  refine st_storea ho hg hd ht hx hy hv hp ?_ (win_set z h0 h1 ha) k
  have hi : i.toNat + 1 ≤ m.length := by omega
  have h2 : (i.toNat + 1) * E.sz ≤ m.length * E.sz := Nat.mul_le_mul_right _ hi
  rw [Nat.add_mul] at h2
  refine Nat.ble_eq_true_of_le ?_
  rw [List.length_append, List.length_append, flat_length, E.len, ha]
  omega
end

/-! ### Turning a list round -/
section
variable {α : Type} [Inhabited α] {m cur : List α} {i j : Int}
/-- What stands outside i..j has been turned. -/
def revI (m cur : List α) (i j : Int) : Prop := cur.length = m.length ∧ ∀ k : Nat, k < m.length → cur[k]? = if (k : Int) < i ∨ j < (k : Int) then m[m.length - 1 - k]? else m[k]?
theorem revI_init : revI m m 0 ((m.length : Int) - 1) := ⟨rfl, fun k hk => by rw [if_neg (by omega)]⟩
theorem revI_next (h : revI m cur i j) (h0 : 0 ≤ i) (hij : i < j) (hs : i + j = (m.length : Int) - 1) : revI m ((cur.set i.toNat (gt cur j)).set j.toNat (gt cur i)) (i + 1) (j - 1) := by
  obtain ⟨hl, h⟩ := h
  refine ⟨by simp [hl], fun k hk => ?_⟩
  have hi := h i.toNat (by omega)
  have hj := h j.toNat (by omega)
  rw [if_neg (by omega)] at hi hj
  have gi : cur[i.toNat]? = some (gt cur i) := gt_at h0 (by omega)
  have gj : cur[j.toNat]? = some (gt cur j) := gt_at (by omega) (by omega)
  rw [List.getElem?_set, List.getElem?_set]
  simp only [List.length_set]
  by_cases e1 : j.toNat = k
  · rw [if_pos e1, if_pos (by omega), if_pos (by omega), ← gi, hi]
    congr 1; omega
  · rw [if_neg e1]
    by_cases e2 : i.toNat = k
    · rw [if_pos e2, if_pos (by omega), if_pos (by omega), ← gj, hj]
      congr 1; omega
    · rw [if_neg e2, h k hk]
      by_cases e3 : (k : Int) < i ∨ j < (k : Int)
      · rw [if_pos e3, if_pos (by omega)]
      · rw [if_neg e3, if_neg (by omega)]
theorem revI_end (h : revI m cur i j) (hij : ¬ i < j) (hs : i + j = (m.length : Int) - 1) : cur = m.reverse := by
  obtain ⟨hl, h⟩ := h
  refine List.ext_getElem? fun k => ?_
  by_cases hk : k < m.length
  · rw [h k hk, List.getElem?_reverse hk]
    split
    · rfl
    · have : k = m.length - 1 - k := by omega
      rw [← this]
  · rw [List.getElem?_eq_none (by omega), List.getElem?_eq_none (by simp; omega)]
end
end Go.SX
