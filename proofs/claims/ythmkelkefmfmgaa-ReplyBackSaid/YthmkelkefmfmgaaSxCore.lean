/- A small frame logic over the walk's own rules: what a list of operations does, told by slots, owned resources and a frozen part of memory. -/
import Derived.OrdersHeld
import Derived.Below
import Derived.Maps.AppendAt
import Derived.Deep.Draws
import Derived.KernelRfl
set_option linter.unusedVariables false
set_option linter.unusedSimpArgs false
namespace Go.SX
open Go Go.RowKit

/-! ### Resources -/
structure Res where
  foot : List Nat
  holds : World → Prop
  stable : ∀ w w' : World, (∀ b ∈ foot, w'.heap[b]? = w.heap[b]?) → holds w → holds w'
  lt : ∀ w : World, holds w → ∀ b ∈ foot, b < w.heap.size

theorem lt_of_some {w : World} {b : Nat} {o : Obj} (h : w.heap[b]? = some o) : b < w.heap.size := (Array.getElem?_eq_some_iff.1 h).1

def blk (b : Nat) (o : Obj) : Res where
  foot := [b]
  holds w := w.heap[b]? = some o
  stable w w' h hw := by rw [h b (by simp)]; exact hw
  lt w h b' hb := by simp at hb; subst hb; exact lt_of_some h

def row (e size : Nat) (v : Value) (n : Nat) (xs : List Value) : Res where
  foot := v.ownBlock.toList
  holds w := w.ownsRow 0 e size v n xs
  stable w w' h hw := by
    obtain ⟨h1, h2⟩ := hw
    refine ⟨h1, ?_⟩
    rcases h2 with h2 | ⟨g, cap, cur, rfl, hb, hg, h3⟩
    · exact .inl h2
    · exact .inr ⟨g, cap, cur, rfl, hb, by rw [h g (by simp [Value.ownBlock])]; exact hg, h3⟩
  lt w h b hb := by
    obtain ⟨h1, h2⟩ := h
    rcases h2 with ⟨rfl, _⟩ | ⟨g, cap, cur, rfl, _, hg, _⟩
    · simp [Value.ownBlock] at hb
    · simp [Value.ownBlock] at hb; subst hb; exact lt_of_some hg

def feet (H : List Res) : List Nat := H.flatMap Res.foot

@[simp] theorem feet_nil : feet [] = [] := rfl
@[simp] theorem feet_cons (r : Res) (H : List Res) : feet (r :: H) = r.foot ++ feet H := by simp [feet]
@[simp] theorem feet_append (H H' : List Res) : feet (H ++ H') = feet H ++ feet H' := by simp [feet]
theorem mem_feet {H : List Res} {b : Nat} : b ∈ feet H ↔ ∃ r ∈ H, b ∈ r.foot := by simp [feet]

/-! ### The state of memory -/
/-- Where a function began: the world, what it may change, what was frozen. -/
structure Env where
  E : World
  M : Nat → Prop
  S0 : Nat → Prop

/-- Slots, resources, the frozen part and the world in which it was frozen. -/
structure St where
  L : List (Nat × Value)
  H : List Res
  S : Nat → Prop
  wf : World

def Fz (S : Nat → Prop) (wf w : World) : Prop := ∀ b, S b → b < wf.heap.size ∧ w.heap[b]? = wf.heap[b]?

theorem Fz.lt {S : Nat → Prop} {wf w : World} (h : Fz S wf w) {b : Nat} (hb : S b) : b < w.heap.size := by
  obtain ⟨h1, h2⟩ := h b hb
  have : wf.heap[b]? = some wf.heap[b] := Array.getElem?_eq_getElem h1
  rw [this] at h2
  exact lt_of_some h2

structure WW (V : Env) (S : Nat → Prop) (wf : World) (H : List Res) (w : World) : Prop where
  has : ∀ r ∈ H, r.holds w
  nd : (feet H).Nodup
  sep : ∀ b ∈ feet H, ¬ S b ∧ (V.M b ∨ V.E.heap.size ≤ b)
  fz : Fz S wf w
  new : ∀ b, S b → V.S0 b ∨ V.M b ∨ V.E.heap.size ≤ b
  fr : ∀ b, b < V.E.heap.size → ¬ V.M b → w.heap[b]? = V.E.heap[b]?
  sz : V.E.heap.size ≤ w.heap.size
  os : w.os = V.E.os
  tape : w.tape = V.E.tape
  output : w.output = V.E.output

/-- Frozen in one, frozen alike in the other. -/
def Ext (S : Nat → Prop) (wf : World) (S' : Nat → Prop) (wf' : World) : Prop := ∀ b, S b → S' b ∧ b < wf.heap.size ∧ wf'.heap[b]? = wf.heap[b]?

theorem Ext.refl (S : Nat → Prop) (wf : World) (h : ∀ b, S b → b < wf.heap.size) : Ext S wf S wf := fun b hb => ⟨hb, h b hb, rfl⟩
theorem Ext.trans {S S' S'' : Nat → Prop} {a b c : World} (h : Ext S a S' b) (k : Ext S' b S'' c) : Ext S a S'' c := fun x hx =>
  let ⟨h1, h2, h3⟩ := h x hx
  let ⟨k1, _, k3⟩ := k x h1
  ⟨k1, h2, k3.trans h3⟩

def lkp : List (Nat × Value) → Nat → Option Value
  | [], _ => none
  | (k, v) :: r, t => bif Nat.beq t k then some v else lkp r t

/-- A slot's value, a constant's, an address. -/
def lk (L : List (Nat × Value)) : Operand → Option Value
  | .tmp t => lkp L t
  | .const v => some v
  | .global g => some (.pointer (some ⟨g, 0, none⟩))
  | .func f => some (.func (.func f) #[] #[])

def ev (L : List (Nat × Value)) (x : Operand) : Value := (lk L x).getD undef
def known (L : List (Nat × Value)) (x : Operand) : Bool := (lk L x).isSome
theorem ev_of {L : List (Nat × Value)} {x : Operand} {v : Value} (h : lk L x = some v) : ev L x = v := by simp [ev, h]
theorem known_of {L : List (Nat × Value)} {x : Operand} {v : Value} (h : lk L x = some v) : known L x = true := by simp [known, h]

def SL (N : Nat) (L : List (Nat × Value)) (a : Act) : Prop := a.tmps.size = N ∧ a.defers = [] ∧ ∀ k v, lkp L k = some v → a.tmps.getD k undef = v

theorem SL.eval {N : Nat} {L : List (Nat × Value)} {a : Act} (h : SL N L a) {x : Operand} {v : Value} (hk : lk L x = some v) : a.eval x = v := by
  cases x with
  | tmp t => exact h.2.2 t v hk
  | _ => simp only [lk, Option.some.injEq] at hk; subst hk; rfl

theorem SL.eval_ev {N : Nat} {L : List (Nat × Value)} {a : Act} (h : SL N L a) {x : Operand} (hk : known L x = true) : a.eval x = ev L x := by
  obtain ⟨v, hv⟩ := Option.isSome_iff_exists.1 hk
  rw [ev_of hv]
  exact h.eval hv

theorem SL.put {N : Nat} {L : List (Nat × Value)} {a : Act} (h : SL N L a) {d : Nat} (hd : Nat.blt d N = true) (v : Value) : SL N ((d, v) :: L) (a.put (some d) v) := by
  have hd' : d < N := by simpa [Nat.blt_eq] using hd
  obtain ⟨h1, h2, h3⟩ := h
  refine ⟨by simp [Act.put, h1], by simpa [Act.put] using h2, fun k u hk => ?_⟩
  rw [lkp] at hk
  by_cases hkd : k = d
  · subst hkd
    simp at hk
    subst hk
    simp [Act.put, h1, hd']
  · have : Nat.beq k d = false := by
      cases hq : Nat.beq k d with
      | false => rfl
      | true => exact absurd (Nat.eq_of_beq_eq_true hq) hkd
    rw [this] at hk
    have := h3 k u hk
    simp only [Act.put]
    simp only [Array.getD_eq_getD_getElem?] at this ⊢
    rw [Array.getElem?_setIfInBounds_ne (by omega)]
    exact this

theorem SL.mono {N : Nat} {L L' : List (Nat × Value)} {a : Act} (h : SL N L a) (hs : ∀ k v, lkp L' k = some v → lkp L k = some v) : SL N L' a :=
  ⟨h.1, h.2.1, fun k v hk => h.2.2 k v (hs k v hk)⟩


/-! ### One operation -/
def Step1 (P : Program) (Q : Exit → Act → World → Prop) (ops : Array Oper) (o : Oper) (J : Act → World → Prop) (a : Act) (w : World) : Prop :=
  if Region.wanted o (yielded ops a.tmps) then o.wp P a w J Q ∨ (o.asks P a w ∧ LetsOut Q) else J (a.put o.dst undef) w

/-- From the state st the operation leads to one of which K holds. -/
def OpStep (V : Env) (P : Program) (Q : Exit → Act → World → Prop) (ops : Array Oper) (N : Nat) (o : Oper) (st : St) (K : St → Prop) : Prop :=
  ∀ a w, SL N st.L a → WW V st.S st.wf st.H w → ∀ J : Act → World → Prop, (∀ st', K st' → ∀ a' w', SL N st'.L a' → WW V st'.S st'.wf st'.H w' → J a' w') → Step1 P Q ops o J a w

/-- A list of operations in the text's order. -/
def SP (V : Env) (P : Program) (Q : Exit → Act → World → Prop) (ops : Array Oper) (N : Nat) (rest : List Oper) (st : St) : Prop :=
  ∀ a w, SL N st.L a → WW V st.S st.wf st.H w → wpList P ops Q rest a w

/-- A piece of code. -/
def SC (V : Env) (P : Program) (Q : Exit → Act → World → Prop) (N : Nat) (c : Code) (st : St) : Prop :=
  ∀ a w, SL N st.L a → WW V st.S st.wf st.H w → c.wp P Q a w

/-- What follows. -/
def SQ (V : Env) (Q : Act → World → Prop) (N : Nat) (st : St) : Prop := ∀ a w, SL N st.L a → WW V st.S st.wf st.H w → Q a w

section
variable {V : Env} {P : Program} {Q : Exit → Act → World → Prop} {ops : Array Oper} {N : Nat} {o : Oper} {rest : List Oper} {L : List (Nat × Value)} {H : List Res} {S : Nat → Prop} {wf : World} {K : St → Prop} {st : St}

theorem SP.cons (h : OpStep V P Q ops N o st (SP V P Q ops N rest)) : SP V P Q ops N (o :: rest) st := by
  intro a w hs hw
  have := h a w hs hw (wpList P ops Q rest) (fun st' k a' w' h1 h2 => k a' w' h1 h2)
  unfold Step1 at this
  unfold wpList
  exact this

theorem SP.nil (h : SQ V (Q .normal) N st) : SP V P Q ops N [] st := h

theorem yielded_of {a : Act} {g t : Nat} {b : Bool} (hs : SL N L a) (ht : (ops[g]?).bind (·.dst) = some t) (hL : lkp L t = some (.bool b)) : yielded ops a.tmps g = some b := by
  have h := hs.2.2 t _ hL
  have h2 : a.tmps[t]? = some (.bool b) := by
    rw [Array.getD_eq_getD_getElem?] at h
    cases hq : a.tmps[t]? with
    | none => rw [hq] at h; simp [undef] at h
    | some u => rw [hq] at h; simpa using h
  simp [yielded, ht, h2]

def gv (b want : Bool) (v : Value) : Value := if b = want then v else undef

def noSel : Op → Bool
  | .select .. => false
  | _ => true

theorem noSel_spec {o : Oper} (h : noSel o.op = true) : ∀ cs b, o.op ≠ .select cs b := by
  intro cs b e
  rw [e] at h
  simp [noSel] at h

theorem exec_ev {a : Act} (hs : SL N L a) (hn : noSel o.op = true) (hk : o.op.operands.all (known L) = true) : execOp a.eval o = execOp (ev L) o :=
  execOp_congr o (noSel_spec hn) fun x hx => hs.eval_ev (Array.all_eq_true_iff_forall_mem.1 hk x hx)

/-- An operation that yields a value and leaves the world. -/
theorem OpStep.val {d : Nat} {v : Value} (hg : o.guard = none) (hd : o.dst = some d) (hdN : Nat.blt d N = true) (hn : noSel o.op = true) (hk : o.op.operands.all (known L) = true)
    (h : ∀ w, WW V S wf H w → (execOp (ev L) o).run P w = .ok (.value v) w) (k : K ⟨(d, v) :: L, H, S, wf⟩) : OpStep V P Q ops N o ⟨L, H, S, wf⟩ K := by
  intro a w hs hw J hJ
  unfold Step1
  rw [if_pos (by simp [Region.wanted, hg])]
  refine .inl ?_
  unfold Oper.wp
  rw [exec_ev hs hn hk, h w hw, Oper.upon_value, hd]
  exact hJ _ k _ _ (hs.put hdN v) hw


end

end Go.SX
