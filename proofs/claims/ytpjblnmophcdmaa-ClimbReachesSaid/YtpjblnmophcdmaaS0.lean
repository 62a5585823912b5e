import Derived.OrdersHeld
import Derived.Below
import Derived.Maps.AppendAt
import Derived.Deep.Draws
import Derived.KernelRfl
import Derived.Deep.MidRow
import Derived.Laws.MakeOwn
import Derived.Deep.LoopGhost
import Derived.Tactics
import Derived.Laws.StructEq
import Derived.Lib.Overlaps
import Derived.Lib.AppendZerosOnto
import Derived.ChangeArms
import Derived.DataReads
import Derived.SizedLaws
import Derived.Carry
set_option linter.unusedVariables false
set_option linter.unusedSimpArgs false
set_option linter.unusedSectionVars false
namespace Go.SX
theorem LL : (∀ (α : Type), (List.length ([] : List α) = 0)) ∧ (∀ (α : Type) (x : α) (l : List α), (x :: l).length = l.length + 1) ∧ (∀ (α : Type) (n : Nat) (x : α) (l : List α), (l.set n x).length = l.length) ∧ (∀ (α : Type) (n : Nat) (l : List α), (l.take n).length = min n l.length) ∧ (∀ (α : Type) (n : Nat) (l : List α), (l.drop n).length = l.length - n) ∧ (∀ (α : Type) (l : List α), l.reverse.length = l.length) ∧ (∀ (α : Type) (l m : List α), (l ++ m).length = l.length + m.length) := ⟨fun _ => rfl, fun _ _ _ => rfl, fun _ _ _ _ => List.length_set, fun _ _ _ => List.length_take, fun _ _ _ => List.length_drop, fun _ _ => List.length_reverse, fun _ _ _ => List.length_append⟩
theorem oO {p : Prop} (h : p := by omega) : p := h
theorem G.{u} {α : Sort u} {a : α} : a = a := rfl
theorem kR {p : Prop} (h : p := by kernel_rfl) : p := h
theorem kW {α : Type} {p : α → Prop} (h : ∀ w, p w := by (intro w; kernel_rfl)) : ∀ w, p w := h
theorem rO {p : Prop} (h : p := by first | rfl | omega | simp) : p := h
theorem dO {p : Prop} (h : p := by dsimp only; omega) : p := h
theorem lO {p : Prop} (h : p := by first | omega | simp only [LL] <;> omega | simp <;> omega) : p := h
end Go.SX
namespace Go.SX
open Go Go.RowKit
structure Res where
  foot : List Nat
  holds : World → Prop
  stable : ∀ w w' : World, (∀ b ∈ foot, w'.heap[b]? = w.heap[b]?) → holds w → holds w'
  lt : ∀ w : World, holds w → ∀ b ∈ foot, b < w.heap.size
theorem lt_of_some {w : World} {b : Nat} {o : Obj} (h : w.heap[b]? = some o) : b < w.heap.size := (Array.getElem?_eq_some_iff.1 h).1
def blk (b : Nat) (o : Obj) : Res where
  foot := [b]
  holds w := w.heap[b]? = some o
  stable w w' h hw := by rw [h b (by simp)]; exact hw
  lt w h b' hb := by simp at hb; subst hb; exact lt_of_some h
def row (e size : Nat) (v : Value) (n : Nat) (xs : List Value) : Res where
  foot := v.ownBlock.toList
  holds w := w.ownsRow 0 e size v n xs
  stable w w' h hw := by
    obtain ⟨h1, h2⟩ := hw
    refine ⟨h1, ?_⟩
    rcases h2 with h2 | ⟨g, cap, cur, rfl, hb, hg, h3⟩
    · exact .inl h2
    · exact .inr ⟨g, cap, cur, rfl, hb, by rw [h g (by simp [Value.ownBlock])]; exact hg, h3⟩
  lt w h b hb := by
    obtain ⟨h1, h2⟩ := h
    rcases h2 with ⟨rfl, _⟩ | ⟨g, cap, cur, rfl, _, hg, _⟩
    · simp [Value.ownBlock] at hb
    · simp [Value.ownBlock] at hb; subst hb; exact lt_of_some hg
def feet (H : List Res) : List Nat := H.flatMap Res.foot
@[simp] theorem feet_nil : feet [] = [] := rfl
@[simp] theorem feet_cons (r : Res) (H : List Res) : feet (r :: H) = r.foot ++ feet H := by simp [feet]
@[simp] theorem feet_append (H H' : List Res) : feet (H ++ H') = feet H ++ feet H' := by simp [feet]
theorem mem_feet {H : List Res} {b : Nat} : b ∈ feet H ↔ ∃ r ∈ H, b ∈ r.foot := by simp [feet]
structure Env where
  E : World
  M : Nat → Prop
  S0 : Nat → Prop
structure St where
  L : List (Nat × Value)
  H : List Res
  S : Nat → Prop
  wf : World
def Fz (S : Nat → Prop) (wf w : World) : Prop := ∀ b, S b → b < wf.heap.size ∧ w.heap[b]? = wf.heap[b]?
theorem Fz.lt {S : Nat → Prop} {wf w : World} (h : Fz S wf w) {b : Nat} (hb : S b) : b < w.heap.size := by
  obtain ⟨h1, h2⟩ := h b hb
  have : wf.heap[b]? = some wf.heap[b] := Array.getElem?_eq_getElem h1
  rw [this] at h2
  exact lt_of_some h2
structure WW (V : Env) (S : Nat → Prop) (wf : World) (H : List Res) (w : World) : Prop where
  has : ∀ r ∈ H, r.holds w
  nd : (feet H).Nodup
  sep : ∀ b ∈ feet H, ¬ S b ∧ (V.M b ∨ V.E.heap.size ≤ b)
  fz : Fz S wf w
  new : ∀ b, S b → V.S0 b ∨ V.M b ∨ V.E.heap.size ≤ b
  fr : ∀ b, b < V.E.heap.size → ¬ V.M b → w.heap[b]? = V.E.heap[b]?
  sz : V.E.heap.size ≤ w.heap.size
  os : w.os = V.E.os
  tape : w.tape = V.E.tape
  output : w.output = V.E.output
def Ext (S : Nat → Prop) (wf : World) (S' : Nat → Prop) (wf' : World) : Prop := ∀ b, S b → S' b ∧ b < wf.heap.size ∧ wf'.heap[b]? = wf.heap[b]?
theorem Ext.refl (S : Nat → Prop) (wf : World) (h : ∀ b, S b → b < wf.heap.size) : Ext S wf S wf := fun b hb => ⟨hb, h b hb, rfl⟩
def lkp : List (Nat × Value) → Nat → Option Value
  | [], _ => none
  | (k, v) :: r, t => bif Nat.beq t k then some v else lkp r t
def lk (L : List (Nat × Value)) : Operand → Option Value
  | .tmp t => lkp L t
  | .const v => some v
  | .global g => some (.pointer (some ⟨g, 0, none⟩))
  | .func f => some (.func (.func f) #[] #[])
def ev (L : List (Nat × Value)) (x : Operand) : Value := (lk L x).getD undef
def known (L : List (Nat × Value)) (x : Operand) : Bool := (lk L x).isSome
theorem ev_of {L : List (Nat × Value)} {x : Operand} {v : Value} (h : lk L x = some v) : ev L x = v := by simp [ev, h]
theorem known_of {L : List (Nat × Value)} {x : Operand} {v : Value} (h : lk L x = some v) : known L x = true := by simp [known, h]
def SL (N : Nat) (L : List (Nat × Value)) (a : Act) : Prop := a.tmps.size = N ∧ a.defers = [] ∧ ∀ k v, lkp L k = some v → a.tmps.getD k undef = v
theorem SL.eval {N : Nat} {L : List (Nat × Value)} {a : Act} (h : SL N L a) {x : Operand} {v : Value} (hk : lk L x = some v) : a.eval x = v := by
  cases x with
  | tmp t => exact h.2.2 t v hk
  | _ => simp only [lk, Option.some.injEq] at hk; subst hk; rfl
theorem SL.eval_ev {N : Nat} {L : List (Nat × Value)} {a : Act} (h : SL N L a) {x : Operand} (hk : known L x = true) : a.eval x = ev L x := by
  obtain ⟨v, hv⟩ := Option.isSome_iff_exists.1 hk
  rw [ev_of hv]
  exact h.eval hv
theorem SL.put {N : Nat} {L : List (Nat × Value)} {a : Act} (h : SL N L a) {d : Nat} (hd : Nat.blt d N = true) (v : Value) : SL N ((d, v) :: L) (a.put (some d) v) := by
  have hd' : d < N := by simpa [Nat.blt_eq] using hd
  obtain ⟨h1, h2, h3⟩ := h
  refine ⟨by simp [Act.put, h1], by simpa [Act.put] using h2, fun k u hk => ?_⟩
  rw [lkp] at hk
  by_cases hkd : k = d
  · subst hkd
    simp at hk
    subst hk
    simp [Act.put, h1, hd']
  · have : Nat.beq k d = false := by
      cases hq : Nat.beq k d with
      | false => rfl
      | true => exact absurd (Nat.eq_of_beq_eq_true hq) hkd
    rw [this] at hk
    have := h3 k u hk
    simp only [Act.put]
    simp only [Array.getD_eq_getD_getElem?] at this ⊢
    rw [Array.getElem?_setIfInBounds_ne (by omega)]
    exact this
theorem SL.mono {N : Nat} {L L' : List (Nat × Value)} {a : Act} (h : SL N L a) (hs : ∀ k v, lkp L' k = some v → lkp L k = some v) : SL N L' a :=
  ⟨h.1, h.2.1, fun k v hk => h.2.2 k v (hs k v hk)⟩
def Step1 (P : Program) (Q : Exit → Act → World → Prop) (ops : Array Oper) (o : Oper) (J : Act → World → Prop) (a : Act) (w : World) : Prop :=
  if Region.wanted o (yielded ops a.tmps) then o.wp P a w J Q ∨ (o.asks P a w ∧ LetsOut Q) else J (a.put o.dst undef) w
def OpStep (V : Env) (P : Program) (Q : Exit → Act → World → Prop) (ops : Array Oper) (N : Nat) (o : Oper) (st : St) (K : St → Prop) : Prop :=
  ∀ a w, SL N st.L a → WW V st.S st.wf st.H w → ∀ J : Act → World → Prop, (∀ st', K st' → ∀ a' w', SL N st'.L a' → WW V st'.S st'.wf st'.H w' → J a' w') → Step1 P Q ops o J a w
def SP (V : Env) (P : Program) (Q : Exit → Act → World → Prop) (ops : Array Oper) (N : Nat) (rest : List Oper) (st : St) : Prop :=
  ∀ a w, SL N st.L a → WW V st.S st.wf st.H w → wpList P ops Q rest a w
def SC (V : Env) (P : Program) (Q : Exit → Act → World → Prop) (N : Nat) (c : Code) (st : St) : Prop :=
  ∀ a w, SL N st.L a → WW V st.S st.wf st.H w → c.wp P Q a w
def SQ (V : Env) (Q : Act → World → Prop) (N : Nat) (st : St) : Prop := ∀ a w, SL N st.L a → WW V st.S st.wf st.H w → Q a w
section
variable {V : Env} {P : Program} {Q : Exit → Act → World → Prop} {ops : Array Oper} {N : Nat} {o : Oper} {rest : List Oper} {L : List (Nat × Value)} {H : List Res} {S : Nat → Prop} {wf : World} {K : St → Prop} {st : St}
theorem SP.cons (h : OpStep V P Q ops N o st (SP V P Q ops N rest)) : SP V P Q ops N (o :: rest) st := by
  intro a w hs hw
  have := h a w hs hw (wpList P ops Q rest) (fun st' k a' w' h1 h2 => k a' w' h1 h2)
  unfold Step1 at this
  unfold wpList
  exact this
theorem SP.nil (h : SQ V (Q .normal) N st) : SP V P Q ops N [] st := h
theorem yielded_of {a : Act} {g t : Nat} {b : Bool} (hs : SL N L a) (ht : (ops[g]?).bind (·.dst) = some t) (hL : lkp L t = some (.bool b)) : yielded ops a.tmps g = some b := by
  have h := hs.2.2 t _ hL
  have h2 : a.tmps[t]? = some (.bool b) := by
    rw [Array.getD_eq_getD_getElem?] at h
    cases hq : a.tmps[t]? with
    | none => rw [hq] at h; simp [undef] at h
    | some u => rw [hq] at h; simpa using h
  simp [yielded, ht, h2]
def gv (b want : Bool) (v : Value) : Value := if b = want then v else undef
def noSel : Op → Bool
  | .select .. => false
  | _ => true
theorem noSel_spec {o : Oper} (h : noSel o.op = true) : ∀ cs b, o.op ≠ .select cs b := by
  intro cs b e
  rw [e] at h
  simp [noSel] at h
theorem exec_ev {a : Act} (hs : SL N L a) (hn : noSel o.op = true) (hk : o.op.operands.all (known L) = true) : execOp a.eval o = execOp (ev L) o :=
  execOp_congr o (noSel_spec hn) fun x hx => hs.eval_ev (Array.all_eq_true_iff_forall_mem.1 hk x hx)
theorem OpStep.val {d : Nat} {v : Value} (hg : o.guard = none) (hd : o.dst = some d) (hdN : Nat.blt d N = true) (hn : noSel o.op = true) (hk : o.op.operands.all (known L) = true)
    (h : ∀ w, WW V S wf H w → (execOp (ev L) o).run P w = .ok (.value v) w) (k : K ⟨(d, v) :: L, H, S, wf⟩) : OpStep V P Q ops N o ⟨L, H, S, wf⟩ K := by
  intro a w hs hw J hJ
  unfold Step1
  rw [if_pos (by simp [Region.wanted, hg])]
  refine .inl ?_
  unfold Oper.wp
  rw [exec_ev hs hn hk, h w hw, Oper.upon_value, hd]
  exact hJ _ k _ _ (hs.put hdN v) hw
end
end Go.SX
namespace Go.SX
open Go Go.RowKit
def ty (P : Program) (t : TypeId) : Option (Bool × Nat) :=
  match P.underlying t, P.info? t with
  | some d, some i => some (d.isRow, i.size)
  | _, _ => none
theorem ty_spec {P : Program} {t : TypeId} {b : Bool} {n : Nat} (h : ty P t = some (b, n)) : ∃ d i, P.underlying t = some d ∧ P.info? t = some i ∧ d.isRow = b ∧ i.size = n := by
  unfold ty at h
  split at h
  · rename_i d i h1 h2
    simp at h
    exact ⟨d, i, h1, h2, h.1, h.2⟩
  · cases h
theorem run_isAgg {P : Program} {t : TypeId} {d : TypeDesc} (h : P.underlying t = some d) (w : World) : (isAgg t).run P w = .ok d.isRow w := by
  unfold isAgg
  rw [Sem.run_bind, run_underlying h w]
  cases d <;> rfl
def At (w : World) (b off : Nat) (cs : List Value) : Prop := ∀ j u, cs[j]? = some u → w.cell? ⟨b, off + j, none⟩ = some u
def val (agg : Bool) (cs : List Value) : Value := if agg then .agg cs.toArray else cs.headD undef
theorem run_load_at {P : Program} {t : TypeId} {agg : Bool} {w : World} {b off : Nat} {cs : List Value} (ht : ty P t = some (agg, cs.length)) (h1 : agg = true ∨ cs.length = 1) (h : At w b off cs) :
    (loadVar t ⟨b, off, none⟩).run P w = .ok (val agg cs) w := by
  obtain ⟨d, i, hu, hi, hd, hs⟩ := ty_spec ht
  cases agg with
  | true =>
    rw [run_loadVar_mid w b off t cs d h hu hd (by rw [hi]; simp [hs])]
    rfl
  | false =>
    rcases h1 with h1 | h1
    · cases h1
    obtain ⟨c, rfl⟩ : ∃ c, cs = [c] := List.length_eq_one_iff.1 h1
    have h0 := h 0 c rfl
    simp only [Nat.add_zero] at h0
    simp [loadVar, run_isAgg hu, hd, h0, val]
theorem At.of_blk {w : World} {b off : Nat} {c : Array Value} {e : TypeId} {fr : Nat × Nat} {cs : List Value} (h : w.heap[b]? = some (.cells c e fr)) (hc : ∀ j u, cs[j]? = some u → c[off + j]? = some u) : At w b off cs := by
  intro j u hu
  simp [World.cell?, h, hc j u hu]
theorem At.fz {S : Nat → Prop} {wf w : World} {b off : Nat} {cs : List Value} (h : At wf b off cs) (hS : S b) (hf : Fz S wf w) : At w b off cs := by
  intro j u hu
  rw [← h j u hu]
  exact World.cell?_of_block (hf b hS).2
section
variable {V : Env} {P : Program} {Q : Exit → Act → World → Prop} {ops : Array Oper} {N : Nat} {o : Oper} {rest : List Oper} {L : List (Nat × Value)} {H : List Res} {S : Nat → Prop} {wf : World} {K : St → Prop} {st : St}
def Ev (P : Program) (C : World → Prop) (L : List (Nat × Value)) (o : Oper) (v : Value) : Prop :=
  noSel o.op = true ∧ o.op.operands.all (known L) = true ∧ ∀ w, C w → (execOp (ev L) o).run P w = .ok (.value v) w
theorem Ev.step {d : Nat} {v : Value} (h : Ev P (WW V S wf H) L o v) (hg : o.guard = none) (hd : o.dst = some d) (hdN : Nat.blt d N = true) (k : K ⟨(d, v) :: L, H, S, wf⟩) : OpStep V P Q ops N o ⟨L, H, S, wf⟩ K :=
  OpStep.val hg hd hdN h.1 h.2.1 h.2.2 k
theorem Ev.gstep {d g t : Nat} {want b : Bool} {v : Value} (h : b = want → Ev P (WW V S wf H) L o v)
    (hg : o.guard = some (g, want)) (ht : (ops[g]?).bind (·.dst) = some t) (hL : lkp L t = some (.bool b)) (hd : o.dst = some d) (hdN : Nat.blt d N = true)
    (k : K ⟨(d, gv b want v) :: L, H, S, wf⟩) : OpStep V P Q ops N o ⟨L, H, S, wf⟩ K := by
  intro a w hs hw J hJ
  unfold Step1
  have hy := yielded_of hs ht hL
  by_cases hb : b = want
  · obtain ⟨hn, hk, h⟩ := h hb
    rw [if_pos (by simp [Region.wanted, hg, hy, hb])]
    rw [show gv b want v = v from if_pos hb] at k
    refine .inl ?_
    unfold Oper.wp
    rw [exec_ev hs hn hk, h w hw, Oper.upon_value, hd]
    exact hJ _ k _ _ (hs.put hdN v) hw
  · rw [if_neg (by simp [Region.wanted, hg, hy, hb]), hd]
    rw [show gv b want v = undef from if_neg hb] at k
    exact hJ _ k _ _ (hs.put hdN undef) hw
theorem OpStep.split {g t : Nat} {want b : Bool} (hg : o.guard = some (g, want)) (ht : (ops[g]?).bind (·.dst) = some t) (hL : lkp st.L t = some (.bool b))
    (h1 : b = want → OpStep V P Q ops N { o with guard := none } st K) {d : Nat} (hd : o.dst = some d) (hdN : Nat.blt d N = true) (h2 : b ≠ want → K ⟨(d, undef) :: st.L, st.H, st.S, st.wf⟩) : OpStep V P Q ops N o st K := by
  intro a w hs hw J hJ
  have hy := yielded_of hs ht hL
  by_cases hb : b = want
  · have := h1 hb a w hs hw J hJ
    unfold Step1 at this ⊢
    rw [if_pos (by simp [Region.wanted])] at this
    rw [if_pos (by simp [Region.wanted, hg, hy, hb])]
    exact this
  · unfold Step1
    rw [if_neg (by simp [Region.wanted, hg, hy, hb]), hd]
    exact hJ _ (h2 hb) _ _ (hs.put hdN undef) hw
theorem OpStep.on {g t : Nat} {want : Bool} (hg : o.guard = some (g, want)) (ht : (ops[g]?).bind (·.dst) = some t) (hL : lkp st.L t = some (.bool want)) (h : OpStep V P Q ops N { o with guard := none } st K) : OpStep V P Q ops N o st K := by
  intro a w hs hw J hJ
  have hy := yielded_of hs ht hL
  have := h a w hs hw J hJ
  unfold Step1 at this ⊢
  rw [if_pos (by simp [Region.wanted])] at this
  rw [if_pos (by simp [Region.wanted, hg, hy])]
  exact this
theorem OpStep.off {g t d : Nat} {want b : Bool} (hg : o.guard = some (g, want)) (ht : (ops[g]?).bind (·.dst) = some t) (hL : lkp st.L t = some (.bool b)) (hb : (b == want) = false) (hd : o.dst = some d) (hdN : Nat.blt d N = true) (h : K ⟨(d, undef) :: st.L, st.H, st.S, st.wf⟩) : OpStep V P Q ops N o st K := by
  intro a w hs hw J hJ
  have hy := yielded_of hs ht hL
  have hb' : b ≠ want := by simpa using hb
  unfold Step1
  rw [if_neg (by simp [Region.wanted, hg, hy, hb']), hd]
  exact hJ _ h _ _ (hs.put hdN undef) hw
theorem SP.reslot {t : Nat} {b c : Bool} (hL : lkp st.L t = some (.bool b)) (hb : b = c) (h : SP V P Q ops N rest ⟨(t, .bool c) :: st.L, st.H, st.S, st.wf⟩) : SP V P Q ops N rest st := by
  intro a w hs hw
  refine h a w (hs.mono fun k v hk => ?_) hw
  unfold lkp at hk
  cases hq : Nat.beq k t with
  | true =>
    have := Nat.eq_of_beq_eq_true hq
    subst this
    rw [hq] at hk
    simp at hk
    subst hk
    subst hb
    exact hL
  | false =>
    rw [hq] at hk
    exact hk
theorem bD {p : Prop} [Decidable p] : decide p = true ↔ p := decide_eq_true_iff
theorem bE {a b : Int} : (a == b) = true ↔ a = b := beq_iff_eq
theorem bNE {a b : Int} : (a != b) = true ↔ a ≠ b := bne_iff_ne
theorem bA {x y : Bool} {p q : Prop} (h : x = true ↔ p) (k : y = true ↔ q) : (x && y) = true ↔ p ∧ q := by rw [Bool.and_eq_true, h, k]
theorem bO {x y : Bool} {p q : Prop} (h : x = true ↔ p) (k : y = true ↔ q) : (x || y) = true ↔ p ∨ q := by rw [Bool.or_eq_true, h, k]
theorem bN {x : Bool} {p : Prop} (h : x = true ↔ p) : (!x) = true ↔ ¬ p := by rw [← h]; cases x <;> simp
theorem bV {x : Bool} : x = true ↔ x = true := Iff.rfl
theorem bT {x : Bool} {p : Prop} (h : x = true ↔ p) (k : x = true) : p := h.1 k
theorem bF {x : Bool} {p : Prop} (h : x = true ↔ p) (k : x = false) : ¬ p := fun hp => by rw [h.2 hp] at k; cases k
variable {C : World → Prop}
theorem ev_mv {x : Operand} {v : Value} (ho : o.op = .move x) (hx : lk L x = some v) : Ev P C L o v :=
  ⟨by simp [ho, noSel], by simp [ho, Op.operands, known_of hx], fun w _ => by simp [execOp, ho, ev_of hx]⟩
theorem ev_as {x : Operand} {v : Value} (ho : o.op = .assign x) (hx : lk L x = some v) : Ev P C L o v :=
  ⟨by simp [ho, noSel], by simp [ho, Op.operands, known_of hx], fun w _ => by simp [execOp, ho, ev_of hx]⟩
theorem ev_pick {c x y : Operand} {b : Bool} {u v : Value} (ho : o.op = .pick c x y) (hc : lk L c = some (.bool b)) (hx : lk L x = some u) (hy : lk L y = some v) : Ev P C L o (if b then u else v) :=
  ⟨by simp [ho, noSel], by simp [ho, Op.operands, known_of hc, known_of hx, known_of hy], fun w _ => by cases b <;> simp [execOp, ho, ev_of hx, ev_of hy, ev_of hc, asBool]⟩
theorem lkg {x : Operand} {b want : Bool} {v : Value} (h : lk L x = some (gv b want v)) (hb : b = want) : lk L x = some v := by rw [h, gv, if_pos hb]
theorem ev_and {c x y : Operand} {b r : Bool} (ho : o.op = .pick c x y) (hc : lk L c = some (.bool b)) (hx : lk L x = some (gv b true (.bool r))) (hy : lk L y = some (.bool false)) : Ev P C L o (.bool (b && r)) := by
  have h := ev_pick (P := P) (C := C) ho hc hx hy
  have e : (if b then gv b true (.bool r) else .bool false) = Value.bool (b && r) := by cases b <;> rfl
  rwa [e] at h
theorem ev_or {c x y : Operand} {b r : Bool} (ho : o.op = .pick c x y) (hc : lk L c = some (.bool b)) (hx : lk L x = some (.bool true)) (hy : lk L y = some (gv b false (.bool r))) : Ev P C L o (.bool (b || r)) := by
  have h := ev_pick (P := P) (C := C) ho hc hx hy
  have e : (if b then .bool true else gv b false (.bool r)) = Value.bool (b || r) := by cases b <;> rfl
  rwa [e] at h
theorem ev_pickt {c x y : Operand} {u : Value} (ho : o.op = .pick c x y) (hc : lk L c = some (.bool true)) (hx : lk L x = some u) (hk : known L y = true) : Ev P C L o u :=
  ⟨by simp [ho, noSel], by simp [ho, Op.operands, known_of hc, known_of hx, hk], fun w _ => by simp [execOp, ho, ev_of hx, ev_of hc, asBool]⟩
theorem ev_pickf {c x y : Operand} {u : Value} (ho : o.op = .pick c x y) (hc : lk L c = some (.bool false)) (hy : lk L y = some u) (hk : known L x = true) : Ev P C L o u :=
  ⟨by simp [ho, noSel], by simp [ho, Op.operands, known_of hc, known_of hy, hk], fun w _ => by simp [execOp, ho, ev_of hy, ev_of hc, asBool]⟩
theorem ev_nil {x : Operand} {a : Addr} (ho : o.op = .nilCheck x) (hx : lk L x = some (.pointer (some a))) : Ev P C L o (.pointer (some a)) :=
  ⟨by simp [ho, noSel], by simp [ho, Op.operands, known_of hx], fun w _ => by simp [execOp, ho, ev_of hx]⟩
theorem ev_ext {x : Operand} {n : Nat} {vs : Array Value} {v : Value} (ho : o.op = .extract x n) (hx : lk L x = some (.tuple vs)) (hv : vs[n]? = some v) : Ev P C L o v :=
  ⟨by simp [ho, noSel], by simp [ho, Op.operands, known_of hx], fun w _ => by simp [execOp, ho, ev_of hx, Instr.extract, hv]⟩
theorem ev_len {x : Operand} {A : Option Addr} {n c : Nat} {t e : TypeId} (ho : o.op = .call { callee := .builtin .len, args := #[x], argTypes := #[t] }) (hu : P.underlying t = some (.slice e)) (hx : lk L x = some (.slice A n c)) : Ev P C L o (.int .i64 (n : Int)) :=
  ⟨by simp [ho, noSel], by simp [ho, Op.operands, Call.operands, known_of hx], fun w _ => by simp [execOp, ho, ev_of hx, resolve, invoke, builtin, Builtin.len_, goInt, run_underlying hu]⟩
theorem ev_any {v : Value} (hn : noSel o.op = true) (hk : o.op.operands.all (known L) = true) (h : ∀ w, (execOp (ev L) o).run P w = .ok (.value v) w) : Ev P C L o v := ⟨hn, hk, fun w _ => h w⟩
theorem ev_bin {op : BinOp} {t t' : TypeId} {x y : Operand} {u v r : Value} (ho : o.op = .binOp op t x y t') (hx : lk L x = some u) (hy : lk L y = some v)
    (h : ∀ w, (do eqGuard op t x y u v; binOp op t u v : Sem Value).run P w = .ok r w) : Ev P C L o r :=
  ⟨by simp [ho, noSel], by simp [ho, Op.operands, known_of hx, known_of hy], fun w _ => by
    have := h w
    simp only [Sem.run_bind] at this
    simp only [execOp, ho, ev_of hx, ev_of hy, Sem.run_bind, this]
    rfl⟩
def cmpB : BinOp → Int → Int → Option Bool
  | .eql, a, b => some (a == b)
  | .neq, a, b => some (a != b)
  | .lss, a, b => some (decide (a < b))
  | .leq, a, b => some (decide (a ≤ b))
  | .gtr, a, b => some (decide (a > b))
  | .geq, a, b => some (decide (a ≥ b))
  | _, _, _ => none
theorem ev_cmp {op : BinOp} {t t' : TypeId} {x y : Operand} {k : IntKind} {a b : Int} {r : Bool} (ho : o.op = .binOp op t x y t') (hx : lk L x = some (.int k a)) (hy : lk L y = some (.int k b)) (hr : cmpB op a b = some r) : Ev P C L o (.bool r) :=
  ev_bin ho hx hy (fun w => by cases op <;> simp [cmpB] at hr <;> subst hr <;> simp [eqGuard, binOp, Op.intCmp, pure])
def arB : BinOp → IntKind → Int → Int → Option Int
  | .add, k, a, b => some (k.wrap (a + b))
  | .sub, k, a, b => some (k.wrap (a - b))
  | .mul, k, a, b => some (k.wrap (a * b))
  | _, _, _, _ => none
theorem ev_ar {op : BinOp} {t t' : TypeId} {x y : Operand} {k : IntKind} {a b r : Int} (ho : o.op = .binOp op t x y t') (hx : lk L x = some (.int k a)) (hy : lk L y = some (.int k b)) (hr : arB op k a b = some r) : Ev P C L o (.int k r) :=
  ev_bin ho hx hy (fun w => by cases op <;> simp [arB] at hr <;> subst hr <;> simp [eqGuard, binOp, Op.intArith, pure])
theorem wrap_in {n : Int} (h1 : -9223372036854775808 ≤ n) (h2 : n ≤ 9223372036854775807) : IntKind.i64.wrap n = n := by
  simp only [IntKind.wrap, IntKind.bits, IntKind.signed, Bool.true_and]
  split <;> simp at * <;> omega
theorem ev_add {t t' : TypeId} {x y : Operand} {a b r : Int} (ho : o.op = .binOp .add t x y t') (hx : lk L x = some (.int .i64 a)) (hy : lk L y = some (.int .i64 b)) (hr : a + b = r) (h1 : -9223372036854775808 ≤ r) (h2 : r ≤ 9223372036854775807) : Ev P C L o (.int .i64 r) :=
  ev_ar ho hx hy (by simp only [arB]; rw [hr, wrap_in h1 h2])
theorem ev_sub {t t' : TypeId} {x y : Operand} {a b r : Int} (ho : o.op = .binOp .sub t x y t') (hx : lk L x = some (.int .i64 a)) (hy : lk L y = some (.int .i64 b)) (hr : a - b = r) (h1 : -9223372036854775808 ≤ r) (h2 : r ≤ 9223372036854775807) : Ev P C L o (.int .i64 r) :=
  ev_ar ho hx hy (by simp only [arB]; rw [hr, wrap_in h1 h2])
theorem ev_mul {t t' : TypeId} {x y : Operand} {a b r : Int} (ho : o.op = .binOp .mul t x y t') (hx : lk L x = some (.int .i64 a)) (hy : lk L y = some (.int .i64 b)) (hr : a * b = r) (h1 : -9223372036854775808 ≤ r) (h2 : r ≤ 9223372036854775807) : Ev P C L o (.int .i64 r) :=
  ev_ar ho hx hy (by simp only [arB]; rw [hr, wrap_in h1 h2])
theorem ev_quo {t t' : TypeId} {x y : Operand} {k : IntKind} {a b : Int} (ho : o.op = .binOp .quo t x y t') (hx : lk L x = some (.int k a)) (hy : lk L y = some (.int k b)) (h0 : b ≠ 0) : Ev P C L o (.int k (k.wrap (a.tdiv b))) :=
  ev_bin ho hx hy (fun w => by simp [eqGuard, binOp, Op.intDiv, pure, h0])
theorem ev_not {t : TypeId} {x : Operand} {b : Bool} (ho : o.op = .unOp .not t x) (hx : lk L x = some (.bool b)) : Ev P C L o (.bool (!b)) :=
  ⟨by simp [ho, noSel], by simp [ho, Op.operands, known_of hx], fun w _ => by simp [execOp, ho, ev_of hx, Op.unary]⟩
theorem ev_cv {s t : TypeId} {x : Operand} {k j : IntKind} {a r : Int} (ho : o.op = .convert s t x) (hs : P.underlying s = some (.int k)) (ht : P.underlying t = some (.int j)) (hx : lk L x = some (.int k a)) (hr : j.wrap a = r) : Ev P C L o (.int j r) :=
  ⟨by simp [ho, noSel], by simp [ho, Op.operands, known_of hx], fun w _ => by simp [execOp, ho, ev_of hx, convert, run_underlying hs, run_underlying ht, Conv.intToInt, hr]⟩
def fo (P : Program) (s : TypeId) (i : Nat) : Option Nat :=
  match P.underlying s with
  | some (.struct fields) => match fields[i]? with
    | some f => match P.info? f.type with
      | some inf => if inf.size = 0 then none else some f.offset
      | none => none
    | none => none
  | _ => none
theorem add_at (b off n : Nat) : (⟨b, off, none⟩ : Addr).add n = ⟨b, off + n, none⟩ := by unfold Addr.add; split <;> simp_all
theorem ev_fa {s : TypeId} {x : Operand} {i b off f : Nat} (ho : o.op = .fieldAddr s x i) (hf : fo P s i = some f) (hx : lk L x = some (.pointer (some ⟨b, off, none⟩))) {r : Nat} (hr : off + f = r) : Ev P C L o (.pointer (some ⟨b, r, none⟩)) :=
  ⟨by simp [ho, noSel], by simp [ho, Op.operands, known_of hx], fun w _ => by
    subst hr
    unfold fo at hf
    split at hf
    · rename_i fields hu
      split at hf
      · rename_i fd hfd
        split at hf
        · rename_i inf hinf
          split at hf
          · cases hf
          · rename_i hz
            simp at hf
            simp [execOp, ho, ev_of hx, Instr.fieldAt, Instr.sureAddr, run_underlying hu, hfd, fieldPlace, sizeOf, typeInfo, hinf, hz, add_at, hf]
        · cases hf
      · cases hf
    · cases hf⟩
theorem ev_ld1 {t : TypeId} {x : Operand} {b off : Nat} {v : Value} (ho : o.op = .load t x) (ht : ty P t = some (false, 1)) (hx : lk L x = some (.pointer (some ⟨b, off, none⟩)))
    (h : ∀ w, C w → At w b off [v]) : Ev P C L o v :=
  ⟨by simp [ho, noSel], by simp [ho, Op.operands, known_of hx], fun w hw => by
    have := run_load_at (P := P) (w := w) (cs := [v]) ht (.inr rfl) (h w hw)
    simp [execOp, ho, ev_of hx, Instr.loadAt, Instr.sureAddr, this, val]⟩
theorem ev_lda {t : TypeId} {x : Operand} {b off : Nat} {cs : List Value} (ho : o.op = .load t x) (hx : lk L x = some (.pointer (some ⟨b, off, none⟩)))
    (h : ∀ w, C w → At w b off cs) (ht : ty P t = some (true, cs.length)) : Ev P C L o (.agg cs.toArray) :=
  ⟨by simp [ho, noSel], by simp [ho, Op.operands, known_of hx], fun w hw => by
    have := run_load_at (P := P) (w := w) ht (.inl rfl) (h w hw)
    simp [execOp, ho, ev_of hx, Instr.loadAt, Instr.sureAddr, this, val]⟩
theorem At.one {w : World} {b off : Nat} {v : Value} (h : w.cell? ⟨b, off, none⟩ = some v) : At w b off [v] := by
  intro j u hu
  cases j with
  | zero => simp at hu; subst hu; simpa using h
  | succ j => simp at hu
theorem At.own1 {b off : Nat} {c : Array Value} {e : TypeId} {fr : Nat × Nat} {v : Value} (i : Nat) (hi : H[i]? = some (blk b (.cells c e fr))) (hc : c[off]? = some v) : ∀ w, WW V S wf H w → At w b off [v] :=
  fun w hw => .one (by simp [World.cell?, show w.heap[b]? = _ from hw.has _ (List.mem_of_getElem? hi), hc])
end
end Go.SX
namespace Go.SX
open Go Go.RowKit
inductive Pick {α : Type} : List α → α → List α → Prop where
  | h {r : α} {H : List α} : Pick (r :: H) r H
  | t {r x : α} {H R : List α} : Pick H r R → Pick (x :: H) r (x :: R)
inductive PickL {α : Type} : List α → List α → List α → Prop where
  | n {H : List α} : PickL H [] H
  | c {H R R' C : List α} {r : α} : Pick H r R → PickL R C R' → PickL H (r :: C) R'
inductive LSet {α : Type} : List α → Nat → α → List α → Prop where
  | h {r r' : α} {H : List α} : LSet (r :: H) 0 r' (r' :: H)
  | t {r' x : α} {n : Nat} {H R : List α} : LSet H n r' R → LSet (x :: H) (n + 1) r' (x :: R)
theorem Pick.perm {α : Type} {H R : List α} {r : α} (h : Pick H r R) : H.Perm (r :: R) := by
  induction h with
  | h => exact List.Perm.refl _
  | t _ ih => exact (ih.cons _).trans (List.Perm.swap _ _ _)
theorem PickL.perm {α : Type} {H C R : List α} (h : PickL H C R) : H.Perm (C ++ R) := by
  induction h with
  | n => exact List.Perm.refl _
  | c hp _ ih => exact hp.perm.trans (ih.cons _)
theorem LSet.eq {α : Type} {l l' : List α} {n : Nat} {v : α} (h : LSet l n v l') : l' = l.set n v ∧ n < l.length := by
  induction h with
  | h => simp
  | t _ ih => simp [ih.1, ih.2]
theorem feet_perm {H H' : List Res} (h : H.Perm H') : (feet H).Perm (feet H') := by
  induction h with
  | nil => exact List.Perm.refl _
  | cons x _ ih => simp only [feet_cons]; exact List.Perm.append_left _ ih
  | swap x y l => simp only [feet_cons]; rw [← List.append_assoc, ← List.append_assoc]; exact List.Perm.append_right _ List.perm_append_comm
  | trans _ _ ih1 ih2 => exact ih1.trans ih2
section
variable {V : Env} {S : Nat → Prop} {wf : World} {H H' C R : List Res} {w w' : World}
theorem WW.perm (h : WW V S wf H w) (hp : H.Perm H') : WW V S wf H' w where
  has r hr := h.has r (hp.mem_iff.2 hr)
  nd := (feet_perm hp).nodup_iff.1 h.nd
  sep b hb := h.sep b ((feet_perm hp).mem_iff.2 hb)
  fz := h.fz
  new := h.new
  fr := h.fr
  sz := h.sz
  os := h.os
  tape := h.tape
  output := h.output
theorem WW.drop (h : WW V S wf (C ++ R) w) : WW V S wf R w where
  has r hr := h.has r (List.mem_append_right _ hr)
  nd := by have := h.nd; rw [feet_append] at this; exact (List.nodup_append.1 this).2.1
  sep b hb := h.sep b (by rw [feet_append]; exact List.mem_append_right _ hb)
  fz := h.fz
  new := h.new
  fr := h.fr
  sz := h.sz
  os := h.os
  tape := h.tape
  output := h.output
theorem WW.lt (h : WW V S wf H w) : ∀ b ∈ feet H, b < w.heap.size := fun b hb => by
  obtain ⟨r, hr, hb⟩ := mem_feet.1 hb
  exact r.lt w (h.has r hr) b hb
theorem WW.change {C' : List Res} (h : WW V S wf (C ++ R) w) (hout : ∀ b, b < w.heap.size → b ∉ feet C → w'.heap[b]? = w.heap[b]?) (hsz : w.heap.size ≤ w'.heap.size)
    (hC : ∀ r ∈ C', r.holds w') (hnd : (feet C').Nodup) (hsub : ∀ b ∈ feet C', b ∈ feet C ∨ w.heap.size ≤ b) (hos : w'.os = w.os) (htape : w'.tape = w.tape) (hout' : w'.output = w.output) : WW V S wf (C' ++ R) w' where
  has r hr := by
    rcases List.mem_append.1 hr with hr | hr
    · exact hC r hr
    · refine r.stable w w' (fun b hb => ?_) (h.has r (List.mem_append_right _ hr))
      have hbR : b ∈ feet R := mem_feet.2 ⟨r, hr, hb⟩
      refine hout b (h.lt b (by rw [feet_append]; exact List.mem_append_right _ hbR)) (fun hc => ?_)
      have := h.nd
      rw [feet_append] at this
      exact (List.nodup_append.1 this).2.2 b hc b hbR rfl
  nd := by
    have hn := h.nd
    rw [feet_append] at hn ⊢
    obtain ⟨_, h2, h3⟩ := List.nodup_append.1 hn
    refine List.nodup_append.2 ⟨hnd, h2, fun a ha b hb e => ?_⟩
    subst e
    rcases hsub a ha with hs | hs
    · exact h3 a hs a hb rfl
    · have := h.lt a (by rw [feet_append]; exact List.mem_append_right _ hb)
      omega
  sep b hb := by
    rw [feet_append] at hb
    rcases List.mem_append.1 hb with hb | hb
    · rcases hsub b hb with hs | hs
      · exact h.sep b (by rw [feet_append]; exact List.mem_append_left _ hs)
      · refine ⟨fun hS => ?_, .inr (by have := h.sz; omega)⟩
        have := h.fz.lt hS
        omega
    · exact h.sep b (by rw [feet_append]; exact List.mem_append_right _ hb)
  fz b hb := by
    refine ⟨(h.fz b hb).1, ?_⟩
    rw [hout b (h.fz.lt hb) (fun hc => (h.sep b (by rw [feet_append]; exact List.mem_append_left _ hc)).1 hb)]
    exact (h.fz b hb).2
  new := h.new
  fr b hb hM := by
    rw [hout b (by have := h.sz; omega) (fun hc => ?_)]
    · exact h.fr b hb hM
    · rcases (h.sep b (by rw [feet_append]; exact List.mem_append_left _ hc)).2 with h1 | h1
      · exact hM h1
      · omega
  sz := Nat.le_trans h.sz hsz
  os := hos.trans h.os
  tape := htape.trans h.tape
  output := hout'.trans h.output
theorem WW.drew (h : WW V S wf H w) : WW V S wf H w.drew where
  has r hr := r.stable w w.drew (fun _ _ => rfl) (h.has r hr)
  nd := h.nd
  sep := h.sep
  fz := h.fz
  new := h.new
  fr := h.fr
  sz := h.sz
  os := h.os
  tape := h.tape
  output := h.output
theorem WW.alloc (h : WW V S wf H w) (o : Obj) : WW V S wf (blk w.heap.size o :: H) (w.alloc o) := by
  refine WW.change (C := []) (R := H) (C' := [blk w.heap.size o]) h (fun b hb _ => Below.heap_alloc w o b hb) (by simp) ?_ (by simp [blk]) (fun b hb => .inr ?_) rfl rfl rfl
  · intro r hr
    simp only [List.mem_singleton] at hr
    subst hr
    exact heap_alloc_new w o
  · simp [blk] at hb
    omega
end
abbrev cel (b : Nat) (l : List Value) (e : TypeId) : Res := blk b (.cells l.toArray e (0, 0))
section
variable {V : Env} {P : Program} {Q : Exit → Act → World → Prop} {ops : Array Oper} {N : Nat} {o : Oper} {rest : List Oper} {L : List (Nat × Value)} {H R : List Res} {S : Nat → Prop} {wf : World} {K : St → Prop} {st : St}
theorem OpStep.act {d : Nat} (hg : o.guard = none) (hd : o.dst = some d) (hdN : Nat.blt d N = true) (hn : noSel o.op = true) (hk : o.op.operands.all (known L) = true)
    (h : ∀ w, WW V S wf H w → ∃ v w' H', (execOp (ev L) o).run P w = .ok (.value v) w' ∧ WW V S wf H' w' ∧ K ⟨(d, v) :: L, H', S, wf⟩) : OpStep V P Q ops N o ⟨L, H, S, wf⟩ K := by
  intro a w hs hw J hJ
  unfold Step1
  rw [if_pos (by simp [Region.wanted, hg])]
  refine .inl ?_
  obtain ⟨v, w', H', hr, hw', k⟩ := h w hw
  unfold Oper.wp
  rw [exec_ev hs hn hk, hr, Oper.upon_value, hd]
  exact hJ _ k _ _ (hs.put hdN v) hw'
theorem OpStep.eff (hg : o.guard = none) (hd : o.dst = none) (hn : noSel o.op = true) (hk : o.op.operands.all (known L) = true)
    (h : ∀ w, WW V S wf H w → ∃ w' H', (execOp (ev L) o).run P w = .ok .skip w' ∧ WW V S wf H' w' ∧ K ⟨L, H', S, wf⟩) : OpStep V P Q ops N o ⟨L, H, S, wf⟩ K := by
  intro a w hs hw J hJ
  unfold Step1
  rw [if_pos (by simp [Region.wanted, hg])]
  refine .inl ?_
  obtain ⟨w', H', hr, hw', k⟩ := h w hw
  unfold Oper.wp
  rw [exec_ev hs hn hk, hr, Oper.upon_skip, hd]
  exact hJ _ k _ _ hs hw'
theorem st_boxa {t : TypeId} {x : Operand} {l : List Value} {d : Nat} (ho : o.op = .box t x) (hg : o.guard = none) (hd : o.dst = some d) (hdN : Nat.blt d N = true) (hx : lk L x = some (.agg l.toArray))
    (k : ∀ b, K ⟨(d, .pointer (some ⟨b, 0, none⟩)) :: L, cel b l t :: H, S, wf⟩) : OpStep V P Q ops N o ⟨L, H, S, wf⟩ K :=
  .act hg hd hdN (by simp [ho, noSel]) (by simp [ho, Op.operands, known_of hx]) fun w hw =>
    ⟨_, _, _, by simp [execOp, ho, ev_of hx, Instr.box, newVar, newRow, newObj, Value.cells, Sem.run], hw.alloc _, k w.heap.size⟩
theorem st_box1 {t : TypeId} {x : Operand} {v : Value} {d : Nat} (ho : o.op = .box t x) (hg : o.guard = none) (hd : o.dst = some d) (hdN : Nat.blt d N = true) (hx : lk L x = some v) (h1 : v.cells = #[v])
    (k : ∀ b, K ⟨(d, .pointer (some ⟨b, 0, none⟩)) :: L, cel b [v] t :: H, S, wf⟩) : OpStep V P Q ops N o ⟨L, H, S, wf⟩ K :=
  .act hg hd hdN (by simp [ho, noSel]) (by simp [ho, Op.operands, known_of hx]) fun w hw =>
    ⟨_, _, _, by simp [execOp, ho, ev_of hx, Instr.box, newVar, newRow, newObj, h1, Sem.run], hw.alloc _, k w.heap.size⟩
theorem st_alloc {t : TypeId} {l : List Value} {d : Nat} (ho : o.op = .alloc t) (hg : o.guard = none) (hd : o.dst = some d) (hdN : Nat.blt d N = true) (hz : (P.info? t).bind (fun i => i.zero.map Value.cells) = some l.toArray)
    (k : ∀ b, K ⟨(d, .pointer (some ⟨b, 0, none⟩)) :: L, cel b l t :: H, S, wf⟩) : OpStep V P Q ops N o ⟨L, H, S, wf⟩ K :=
  .act hg hd hdN (by simp [ho, noSel]) (by simp [ho, Op.operands]) fun w hw => by
    obtain ⟨i, hi, hz⟩ := Option.bind_eq_some_iff.1 hz
    obtain ⟨z, hz1, hz2⟩ := Option.map_eq_some_iff.1 hz
    exact ⟨_, _, _, by simp [execOp, ho, Instr.alloc, zeroValue, typeInfo, hi, hz1, newVar, newRow, newObj, hz2, Sem.run], hw.alloc _, k w.heap.size⟩
theorem run_store1 {P : Program} {t : TypeId} {w : World} {b off : Nat} {l : List Value} {e : TypeId} {v : Value} (ht : ty P t = some (false, 1)) (hv : v.oneCell' = true) (hb : w.heap[b]? = some (.cells l.toArray e (0, 0))) (ho : off < l.length) :
    (storeVar t ⟨b, off, none⟩ v).run P w = .ok () (w.setCell ⟨b, off, none⟩ v) := by
  obtain ⟨d, i, hu, hi, hd, hs⟩ := ty_spec ht
  have hc : v.cells = #[v] := by cases v <;> first | rfl | simp [Value.oneCell'] at hv
  have hcell : w.cell? ⟨b, off, none⟩ = some l[off] := by simp [World.cell?, hb, ho]
  have hfr : w.frozen? ⟨b, off, none⟩ = false := by simp [World.frozen?, hb]
  cases v <;> first | (simp [Value.oneCell'] at hv; done) | simp [storeVar, sizeOf, typeInfo, hi, hs, hc, storeCells, store, Addr.add, Sem.run, hcell, hfr]
theorem heap_setCell_at {w : World} {b off : Nat} {l : List Value} {e : TypeId} {v : Value} (hb : w.heap[b]? = some (.cells l.toArray e (0, 0))) : (w.setCell ⟨b, off, none⟩ v).heap[b]? = some (.cells (l.set off v).toArray e (0, 0)) := by
  simp [World.setCell, Array.getElem?_modify, hb]
theorem st_store1 {t e : TypeId} {x y : Operand} {b off : Nat} {v : Value} {l l' : List Value} (ho : o.op = .store t x y) (hg : o.guard = none) (hd : o.dst = none) (ht : ty P t = some (false, 1)) (hx : lk L x = some (.pointer (some ⟨b, off, none⟩))) (hy : lk L y = some v)
    (hv : v.oneCell' = true) (hp : Pick H (cel b l e) R) (hl : LSet l off v l') (k : K ⟨L, cel b l' e :: R, S, wf⟩) : OpStep V P Q ops N o ⟨L, H, S, wf⟩ K :=
  .eff hg hd (by simp [ho, noSel]) (by simp [ho, Op.operands, known_of hx, known_of hy]) fun w hw => by
    obtain ⟨rfl, hlt⟩ := hl.eq
    have hw' := hw.perm hp.perm
    have hb : w.heap[b]? = some (.cells l.toArray e (0, 0)) := hw'.has _ (List.mem_cons_self ..)
    refine ⟨_, _, by simp [execOp, ho, ev_of hx, ev_of hy, Instr.storeAt, Instr.sureAddr, run_store1 ht hv hb hlt]; rfl, ?_, k⟩
    refine WW.change (C := [cel b l e]) (R := R) (C' := [cel b (l.set off v) e]) hw' (fun b' _ hn => Below.heap_setCell _ _ _ _ (by simpa [blk] using hn)) (by simp) ?_ (by simp [blk]) (fun b' hb' => .inl (by simpa [blk] using hb')) rfl rfl rfl
    intro r hr
    simp only [List.mem_singleton] at hr
    subst hr
    exact heap_setCell_at hb
theorem run_storea {P : Program} {t : TypeId} {w : World} {b off : Nat} {l vs : List Value} {e : TypeId} {ag : Bool} {u : Value} (hcu : u.cells = vs.toArray) (ht : ty P t = some (ag, vs.length)) (hv : vs.all (·.oneCell') = true) (hb : w.heap[b]? = some (.cells l.toArray e (0, 0))) (ho : off + vs.length ≤ l.length) :
    ∃ w', (storeVar t ⟨b, off, none⟩ u).run P w = .ok () w' ∧ w'.heap[b]? = some (.cells (l.take off ++ vs ++ l.drop (off + vs.length)).toArray e (0, 0)) ∧ (∀ b', b' ≠ b → w'.heap[b']? = w.heap[b']?) ∧ w'.heap.size = w.heap.size ∧ w'.os = w.os ∧ w'.tape = w.tape ∧ w'.output = w.output := by
  obtain ⟨d, i, hu, hi, hd, hs⟩ := ty_spec ht
  have h1 : ∀ v ∈ vs, v.oneCell' = true := List.all_eq_true.1 hv
  have hst := run_storeCells_at P b off e vs 0 l.toArray w hb (by simpa using ho) h1
  simp only [Nat.add_zero] at hst
  refine ⟨_, by simp [storeVar, sizeOf, typeInfo, hi, hs, hcu, hst]; rfl, setRow_heap w b _ _ e _ hb |>.trans ?_, fun b' hb' => setRow_other w b b' _ hb', by simp, rfl, rfl, rfl⟩
  simp
theorem st_storea {t e : TypeId} {x y : Operand} {b off : Nat} {ag : Bool} {vs l l' : List Value} (ho : o.op = .store t x y) (hg : o.guard = none) (hd : o.dst = none) (ht : ty P t = some (ag, vs.length)) (hx : lk L x = some (.pointer (some ⟨b, off, none⟩))) (hy : lk L y = some (.agg vs.toArray))
    (hv : vs.all (·.oneCell') = true) (hp : Pick H (cel b l e) R) (hle : Nat.ble (off + vs.length) l.length = true) (hl : l.take off ++ vs ++ l.drop (off + vs.length) = l') (k : K ⟨L, cel b l' e :: R, S, wf⟩) : OpStep V P Q ops N o ⟨L, H, S, wf⟩ K :=
  .eff hg hd (by simp [ho, noSel]) (by simp [ho, Op.operands, known_of hx, known_of hy]) fun w hw => by
    subst hl
    have hw' := hw.perm hp.perm
    have hb : w.heap[b]? = some (.cells l.toArray e (0, 0)) := hw'.has _ (List.mem_cons_self ..)
    obtain ⟨w', hr, h1, h2, h3, h4, h5, h6⟩ := run_storea (P := P) (u := .agg vs.toArray) rfl ht hv hb (by simpa using hle)
    refine ⟨w', _, by simp [execOp, ho, ev_of hx, ev_of hy, Instr.storeAt, Instr.sureAddr, hr], ?_, k⟩
    refine WW.change (C := [cel b l e]) (R := R) (C' := [cel b _ e]) hw' (fun b' _ hn => h2 b' (by simpa [blk] using hn)) (by omega) ?_ (by simp [blk]) (fun b' hb' => .inl (by simpa [blk] using hb')) h4 h5 h6
    intro r hr
    simp only [List.mem_singleton] at hr
    subst hr
    exact h1
end
end Go.SX
namespace Go.SX
open Go Go.RowKit
structure Enc (α : Type) where
  sz : Nat
  enc : α → List Value
  len : ∀ x, (enc x).length = sz
  one : ∀ x, ∀ u ∈ enc x, u.oneCell' = true
  pos : 0 < sz
def flat {α : Type} (E : Enc α) (l : List α) : List Value := l.flatMap E.enc
theorem flat_cons {α : Type} (E : Enc α) (x : α) (l : List α) : flat E (x :: l) = E.enc x ++ flat E l := by simp [flat]
theorem flat_append {α : Type} (E : Enc α) (l m : List α) : flat E (l ++ m) = flat E l ++ flat E m := by simp [flat]
theorem flat_length {α : Type} (E : Enc α) (l : List α) : (flat E l).length = l.length * E.sz := by
  induction l with
  | nil => simp [flat]
  | cons x l ih => rw [flat_cons, List.length_append, ih, E.len, List.length_cons, Nat.succ_mul]; omega
theorem flat_one {α : Type} (E : Enc α) (l : List α) : ∀ u ∈ flat E l, u.oneCell' = true := by
  intro u hu
  obtain ⟨x, _, hx⟩ := List.mem_flatMap.1 hu
  exact E.one x u hx
theorem flat_take {α : Type} (E : Enc α) (l : List α) (n : Nat) : (flat E l).take (n * E.sz) = flat E (l.take n) := by
  induction l generalizing n with
  | nil => simp [flat]
  | cons x l ih =>
    cases n with
    | zero => simp [flat]
    | succ n =>
      rw [List.take_succ_cons, flat_cons, flat_cons, ← ih, Nat.succ_mul, Nat.add_comm, List.take_append, List.take_of_length_le (by rw [E.len]; omega), E.len]
      congr 2
      omega
theorem flat_drop {α : Type} (E : Enc α) (l : List α) (n : Nat) : (flat E l).drop (n * E.sz) = flat E (l.drop n) := by
  induction l generalizing n with
  | nil => simp [flat]
  | cons x l ih =>
    cases n with
    | zero => simp [flat]
    | succ n =>
      rw [List.drop_succ_cons, flat_cons, ← ih, Nat.succ_mul, Nat.add_comm, List.drop_append, E.len, List.drop_eq_nil_of_le (by rw [E.len]; omega), List.nil_append]
      congr 1
      omega
theorem flat_get {α : Type} (E : Enc α) (l : List α) (i : Nat) (x : α) (h : l[i]? = some x) (j : Nat) (u : Value) (hu : (E.enc x)[j]? = some u) : (flat E l)[i * E.sz + j]? = some u := by
  have hi : i < l.length := (List.getElem?_eq_some_iff.1 h).1
  have hx : l[i] = x := (List.getElem?_eq_some_iff.1 h).2
  rw [← List.getElem?_drop, flat_drop, List.drop_eq_getElem_cons hi, hx, flat_cons, List.getElem?_append_left (by exact (List.getElem?_eq_some_iff.1 hu).1)]
  exact hu
def Enc.scalar {α : Type} (f : α → Value) (h : ∀ x, (f x).oneCell' = true) : Enc α where
  sz := 1
  enc x := [f x]
  len _ := rfl
  one x u hu := by simp only [List.mem_singleton] at hu; subst hu; exact h x
  pos := by decide
def eI (k : IntKind) : Enc Int := .scalar (.int k) (fun _ => rfl)
def eB : Enc Bool := .scalar .bool (fun _ => rfl)
def gt {α : Type} [Inhabited α] (l : List α) (i : Int) : α := l.getD i.toNat default
theorem gt_at {α : Type} [Inhabited α] {l : List α} {i : Int} (h0 : 0 ≤ i) (h1 : i < (l.length : Int)) : l[i.toNat]? = some (gt l i) := by
  have : i.toNat < l.length := by omega
  simp [gt, List.getD_eq_getElem?_getD, List.getElem?_eq_getElem this]
def Fr {α : Type} (E : Enc α) (S : Nat → Prop) (wf : World) (A : Option Addr) (l : List α) : Prop :=
  l.length ≤ 140737488355328 ∧ (l = [] ∨ ∃ b off, A = some ⟨b, off, none⟩ ∧ S b ∧ ∀ i x, l[i]? = some x → At wf b (off + i * E.sz) (E.enc x))
theorem Fr.nil {α : Type} (E : Enc α) (S : Nat → Prop) (wf : World) (A : Option Addr) : Fr E S wf A ([] : List α) := ⟨by simp, .inl rfl⟩
theorem Fr.len {α : Type} {E : Enc α} {S : Nat → Prop} {wf : World} {A : Option Addr} {l : List α} (h : Fr E S wf A l) : l.length ≤ 140737488355328 := h.1
theorem Fr.form {α : Type} {E : Enc α} {S : Nat → Prop} {wf : World} {A : Option Addr} {l : List α} (h : Fr E S wf A l) (hl : 0 < l.length) : ∃ b off, A = some ⟨b, off, none⟩ := by
  rcases h.2 with rfl | ⟨b, off, h, _⟩
  · simp at hl
  · exact ⟨b, off, h⟩
theorem At.ext {S S' : Nat → Prop} {wf wf' : World} {b off : Nat} {cs : List Value} (h : At wf b off cs) (hb : S b) (hx : Ext S wf S' wf') : At wf' b off cs := by
  intro j u hu
  rw [← h j u hu]
  exact World.cell?_of_block (hx b hb).2.2
theorem Fr.ext {α : Type} {E : Enc α} {S S' : Nat → Prop} {wf wf' : World} {A : Option Addr} {l : List α} (h : Fr E S wf A l) (hx : Ext S wf S' wf') : Fr E S' wf' A l := by
  refine ⟨h.1, h.2.imp id ?_⟩
  rintro ⟨b, off, h1, h2, h3⟩
  exact ⟨b, off, h1, (hx b h2).1, fun i x hi => (h3 i x hi).ext h2 hx⟩
def rw_ {α : Type} (E : Enc α) (e : Nat) (v : Value) (l : List α) : Res := row e E.sz v l.length (flat E l)
theorem rw_holds {α : Type} {E : Enc α} {e : Nat} {v : Value} {l : List α} {w : World} : (rw_ E e v l).holds w ↔ (v = .slice none 0 0 ∧ l = []) ∨
    ∃ g cap cur, v = .slice (some ⟨g, 0, none⟩) l.length cap ∧ w.heap[g]? = some (.cells cur e (0, 0)) ∧ l.length ≤ cap ∧ cap ≤ maxLen ∧ cur.size = cap * E.sz ∧ cur.toList.take (l.length * E.sz) = flat E l := by
  constructor
  · rintro ⟨h1, h2 | ⟨g, cap, cur, h⟩⟩
    · exact .inl ⟨h2.1, List.eq_nil_of_length_eq_zero h2.2⟩
    · exact .inr ⟨g, cap, cur, h.1, h.2.2.1, h.2.2.2⟩
  · rintro (⟨h1, rfl⟩ | ⟨g, cap, cur, h⟩)
    · exact ⟨by simp [flat], .inl ⟨h1, rfl⟩⟩
    · exact ⟨flat_length E l, .inr ⟨g, cap, cur, h.1, Nat.zero_le _, h.2.1, h.2.2⟩⟩
theorem At.row {α : Type} {E : Enc α} {e g : Nat} {A : Value} {n c : Nat} {l : List α} {w : World} (h : (rw_ E e (.slice (some ⟨g, 0, none⟩) n c) l).holds w) {i : Nat} {x : α} (hx : l[i]? = some x) : At w g (0 + i * E.sz) (E.enc x) := by
  intro j u hu
  have hc := h.cells (g := g) rfl (i * E.sz + j) u (flat_get E l i x hx j u hu)
  rw [add_at] at hc
  rw [Nat.zero_add]
  rwa [Nat.zero_add] at hc
section
variable {V : Env} {P : Program} {Q : Exit → Act → World → Prop} {ops : Array Oper} {N : Nat} {o : Oper} {rest : List Oper} {L : List (Nat × Value)} {H R : List Res} {S : Nat → Prop} {wf : World} {K : St → Prop} {st : St}
theorem At.elem1 {C : World → Prop} {b off : Nat} {cs : List Value} {v : Value} (h : ∀ w, C w → At w b off cs) (k : Nat) (hk : cs[k]? = some v) : ∀ w, C w → At w b (off + k) [v] :=
  fun w hw => .one (h w hw k v hk)
theorem At.elemn {C : World → Prop} {b off : Nat} {cs ds : List Value} (h : ∀ w, C w → At w b off cs) (k : Nat) (hk : (cs.drop k).take ds.length = ds) : ∀ w, C w → At w b (off + k) ds :=
  fun w hw j u hu => by
    rw [← hk, List.getElem?_take] at hu
    split at hu
    · rw [List.getElem?_drop] at hu
      have := h w hw (k + j) u hu
      rw [Nat.add_assoc]
      exact this
    · cases hu
theorem At.whole {b : Nat} {l : List Value} {e : TypeId} (i : Nat) (hi : H[i]? = some (cel b l e)) : ∀ w, WW V S wf H w → At w b 0 l :=
  fun w hw => At.of_blk (hw.has _ (List.mem_of_getElem? hi)) (fun j u hu => by simpa using hu)
theorem OpStep.know {φ : Prop} (h : ∀ w, WW V st.S st.wf st.H w → φ) (k : φ → OpStep V P Q ops N o st K) : OpStep V P Q ops N o st K :=
  fun a w hs hw => k (h w hw) a w hs hw
theorem SP.know {φ : Prop} (h : ∀ w, WW V st.S st.wf st.H w → φ) (k : φ → SP V P Q ops N rest st) : SP V P Q ops N rest st := fun a w hs hw => k (h w hw) a w hs hw
theorem SC.know {c : Code} {φ : Prop} (h : ∀ w, WW V st.S st.wf st.H w → φ) (k : φ → SC V P Q N c st) : SC V P Q N c st := fun a w hs hw => k (h w hw) a w hs hw
theorem row_form {α : Type} {E : Enc α} {e : Nat} {v : Value} {l : List α} (k : Nat) (hk : H[k]? = some (rw_ E e v l)) (hl : 0 < l.length) : ∀ w, WW V S wf H w → ∃ g c, v = .slice (some ⟨g, 0, none⟩) l.length c ∧ l.length ≤ c ∧ c ≤ maxLen := fun w hw => by
  rcases rw_holds.1 (hw.has _ (List.mem_of_getElem? hk)) with ⟨_, rfl⟩ | ⟨g, cap, cur, h1, _, h2, h3, _⟩
  · simp at hl
  · exact ⟨g, cap, h1, h2, h3⟩
theorem row_len {α : Type} {E : Enc α} {e : Nat} {v : Value} {l : List α} (k : Nat) (hk : H[k]? = some (rw_ E e v l)) : ∀ w, WW V S wf H w → ∃ A c, v = .slice A l.length c ∧ l.length ≤ c ∧ c ≤ maxLen := fun w hw => by
  rcases rw_holds.1 (hw.has _ (List.mem_of_getElem? hk)) with ⟨h1, rfl⟩ | ⟨g, cap, cur, h1, _, h2, h3, _⟩
  · exact ⟨none, 0, h1, by simp, by simp [maxLen]⟩
  · exact ⟨_, cap, h1, h2, h3⟩
theorem st_lit {α : Type} (E : Enc α) {t e : TypeId} {n : Nat} {parts : Array (Nat × Operand)} {l : List α} {d : Nat} (ho : o.op = .buildSlice t n parts) (hg : o.guard = none) (hd : o.dst = some d) (hdN : Nat.blt d N = true)
    (hk : o.op.operands.all (known L) = true) (hl : l.length = n) (hm : Nat.ble n 100000 = true)
    (h : ∀ w, (Instr.buildSlice t n (parts.map fun p => (p.1, ev L p.2))).run P w = .ok (.slice (some ⟨w.heap.size, 0, none⟩) n n) (w.alloc (.cells (flat E l).toArray e (0, 0))))
    (k : ∀ b, K ⟨(d, .slice (some ⟨b, 0, none⟩) n n) :: L, rw_ E e (.slice (some ⟨b, 0, none⟩) n n) l :: H, S, wf⟩) : OpStep V P Q ops N o ⟨L, H, S, wf⟩ K :=
  .act hg hd hdN (by simp [ho, noSel]) hk fun w hw => by
    have hm' : n ≤ 100000 := Nat.le_of_ble_eq_true hm
    refine ⟨_, _, _, by simp only [execOp, ho, Sem.run_bind, h w]; rfl, ?_, k w.heap.size⟩
    refine WW.change (C := []) (R := H) (C' := [rw_ E e (.slice (some ⟨w.heap.size, 0, none⟩) n n) l]) hw (fun b hb _ => Below.heap_alloc w _ b hb) (by simp) ?_ (by simp [rw_, row, Value.ownBlock]) (fun b hb => .inr ?_) rfl rfl rfl
    · intro r hr
      simp only [List.mem_singleton] at hr
      subst hr
      refine rw_holds.2 (.inr ⟨w.heap.size, n, _, by rw [hl], heap_alloc_new w _, by omega, by simp only [maxLen]; omega, by simp [flat_length, hl], ?_⟩)
      rw [List.take_of_length_le (by simp [flat_length])]
    · simp [rw_, row, Value.ownBlock] at hb
      omega
end
end Go.SX
namespace Go.SX
open Go Go.RowKit
abbrev env (w : World) (C : List Res) (S : Nat → Prop) : Env := ⟨w, fun b => b ∈ feet C, S⟩
def TRp (V : Env) (S : Nat → Prop) (wf : World) (post : Value → List Res → (Nat → Prop) → World → Prop) : Ending → World → Prop := fun e w' =>
  ∃ v C' S' wf', e = .returned v ∧ post v C' S' wf' ∧ Ext S wf S' wf' ∧ WW V S' wf' C' w'
def TR (P : Program) (f : FuncId) (args : List Value) (C : List Res) (S : Nat → Prop) (wf : World) (post : Value → List Res → (Nat → Prop) → World → Prop) : Prop :=
  ∀ w, WW (env w C S) S wf C w → Calls P f args.toArray w (TRp (env w C S) S wf post)
def TR0 (P : Program) (f : FuncId) (args : List Value) (C : List Res) (S : Nat → Prop) (wf : World) (post : Value → List Res → Prop) : Prop :=
  TR P f args C S wf fun v C' S' wf' => post v C' ∧ S' = S ∧ wf' = wf
theorem TR.mono {P : Program} {f : FuncId} {args : List Value} {C : List Res} {S : Nat → Prop} {wf : World} {post post' : Value → List Res → (Nat → Prop) → World → Prop} (h : TR P f args C S wf post) (hp : ∀ v C' S' wf', post v C' S' wf' → post' v C' S' wf') : TR P f args C S wf post' :=
  fun w hw => (h w hw).mono fun e w' ⟨v, C', S', wf', h1, h2, h3⟩ => ⟨v, C', S', wf', h1, hp _ _ _ _ h2, h3⟩
theorem TR0.mono {P : Program} {f : FuncId} {args : List Value} {C : List Res} {S : Nat → Prop} {wf : World} {post post' : Value → List Res → Prop} (h : TR0 P f args C S wf post) (hp : ∀ v C', post v C' → post' v C') : TR0 P f args C S wf post' :=
  TR.mono h fun v C' S' wf' ⟨h1, h2⟩ => ⟨hp _ _ h1, h2⟩
def lkAll (L : List (Nat × Value)) : List Operand → Option (List Value)
  | [] => some []
  | x :: r => match lk L x, lkAll L r with
    | some v, some vs => some (v :: vs)
    | _, _ => none
theorem lkAll_spec {L : List (Nat × Value)} : ∀ {xs : List Operand} {vs : List Value}, lkAll L xs = some vs → xs.map (ev L) = vs ∧ ∀ x ∈ xs, known L x = true
  | [], vs, h => by simp [lkAll] at h; subst h; simp
  | x :: r, vs, h => by
    unfold lkAll at h
    split at h
    · rename_i v us h1 h2
      simp at h
      subst h
      obtain ⟨h3, h4⟩ := lkAll_spec h2
      exact ⟨by simp [ev_of h1, h3], fun y hy => (List.mem_cons.1 hy).elim (fun e => e ▸ known_of h1) (h4 y)⟩
    · cases h
def hasBody (P : Program) (f : FuncId) : Bool := match P.funcs[f]? with
  | some fn => fn.name != "runtime.NumGoroutine" && fn.body.isSome
  | none => false
theorem run_callFunc {P : Program} {f : FuncId} (h : hasBody P f = true) (args : Array Value) (w : World) : (callFunc f args).run P w = .ok (.enter f args) w := by
  unfold hasBody at h
  split at h
  · rename_i fn hf
    simp only [Bool.and_eq_true, bne_iff_ne, ne_eq] at h
    have hn : ¬ fn.name = "runtime.NumGoroutine" := by simpa using h.1
    have hb : ¬ fn.body = none := by
      intro hq
      rw [hq] at h
      simp at h
    simp [callFunc, program, Sem.run, hf, hn, hb, Sem.run_bind]
  · cases h
section
variable {V : Env} {P : Program} {Q : Exit → Act → World → Prop} {ops : Array Oper} {N : Nat} {o : Oper} {rest : List Oper} {L : List (Nat × Value)} {H R C R1 : List Res} {S : Nat → Prop} {wf : World} {K : St → Prop} {st : St}
theorem WW.call {w w' : World} {C' : List Res} {S1 S' : Nat → Prop} {wf' : World} (h : WW V S wf (C ++ R) w) (hc : WW (env w C S1) S' wf' C' w') : WW V S wf (C' ++ R) w' :=
  h.change (fun b hb hn => hc.fr b hb hn) hc.sz hc.has hc.nd (fun b hb => (hc.sep b hb).2) hc.os hc.tape hc.output
theorem WW.enter {w : World} (h : WW V S wf (C ++ R) w) : WW (env w C S) S wf C w where
  has r hr := h.has r (List.mem_append_left _ hr)
  nd := by have := h.nd; rw [feet_append] at this; exact (List.nodup_append.1 this).1
  sep b hb := ⟨(h.sep b (by rw [feet_append]; exact List.mem_append_left _ hb)).1, .inl hb⟩
  fz := h.fz
  new b hb := .inl hb
  fr b _ _ := rfl
  sz := Nat.le_refl _
  os := rfl
  tape := rfl
  output := rfl
theorem WW.lend {w : World} (h : WW V S wf (C ++ (R1 ++ R)) w) : WW (env w C (fun b => S b ∨ b ∈ feet R1)) (fun b => S b ∨ b ∈ feet R1) w C w where
  has r hr := h.has r (List.mem_append_left _ hr)
  nd := by have := h.nd; rw [feet_append] at this; exact (List.nodup_append.1 this).1
  sep b hb := by
    refine ⟨fun hs => ?_, .inl hb⟩
    rcases hs with hs | hs
    · exact (h.sep b (by rw [feet_append]; exact List.mem_append_left _ hb)).1 hs
    · have := h.nd
      rw [feet_append] at this
      exact (List.nodup_append.1 this).2.2 b hb b (by rw [feet_append]; exact List.mem_append_left _ hs) rfl
  fz b hb := by
    refine ⟨?_, rfl⟩
    rcases hb with hb | hb
    · exact h.fz.lt hb
    · exact h.lt b (by simp [hb])
  new b hb := .inl hb
  fr b _ _ := rfl
  sz := Nat.le_refl _
  os := rfl
  tape := rfl
  output := rfl
theorem WW.callS {w w' : World} {C' : List Res} {S' : Nat → Prop} {wf' : World} (h : WW V S wf (C ++ R) w) (hc : WW (env w C S) S' wf' C' w') : WW V S' wf' (C' ++ R) w' where
  has := (h.call hc).has
  nd := (h.call hc).nd
  sep b hb := by
    refine ⟨fun hS => ?_, ((h.call hc).sep b hb).2⟩
    rw [feet_append] at hb
    rcases List.mem_append.1 hb with hb | hb
    · exact (hc.sep b hb).1 hS
    · have hlt := h.lt b (by rw [feet_append]; exact List.mem_append_right _ hb)
      rcases hc.new b hS with h1 | h1 | h1
      · exact (h.sep b (by rw [feet_append]; exact List.mem_append_right _ hb)).1 h1
      · have := h.nd
        rw [feet_append] at this
        exact (List.nodup_append.1 this).2.2 b h1 b hb rfl
      · have h1' : w.heap.size ≤ b := h1
        omega
  fz := hc.fz
  new b hb := by
    rcases hc.new b hb with h1 | h1 | h1
    · exact h.new b h1
    · exact .inr (h.sep b (by rw [feet_append]; exact List.mem_append_left _ h1)).2
    · have h1' : w.heap.size ≤ b := h1
      have := h.sz
      exact .inr (.inr (by omega))
  fr := (h.call hc).fr
  sz := (h.call hc).sz
  os := (h.call hc).os
  tape := (h.call hc).tape
  output := (h.call hc).output
theorem OpStep.enter {d : Nat} {f : FuncId} {args : Array Value} (hg : o.guard = none) (hd : o.dst = some d) (hdN : Nat.blt d N = true) (hn : noSel o.op = true) (hk : o.op.operands.all (known L) = true)
    (hrun : ∀ w, (execOp (ev L) o).run P w = .ok (.enter f args) w)
    (h : ∀ w, WW V S wf H w → Calls P f args w fun e w' => ∃ v H' S' wf', e = .returned v ∧ WW V S' wf' H' w' ∧ K ⟨(d, v) :: L, H', S', wf'⟩) : OpStep V P Q ops N o ⟨L, H, S, wf⟩ K := by
  intro a w hs hw J hJ
  unfold Step1
  rw [if_pos (by simp [Region.wanted, hg])]
  refine .inl ?_
  unfold Oper.wp
  rw [exec_ev hs hn hk, hrun, Oper.upon_enter]
  refine (h w hw).mono fun e w' hq => ?_
  obtain ⟨v, H', S', wf', rfl, hw', k⟩ := hq
  show J (a.put o.dst v) w'
  rw [hd]
  exact hJ _ k _ _ (hs.put hdN v) hw'
theorem run_call {x : Array Operand} {ts : Array TypeId} {f : FuncId} {args : List Value} (ho : o.op = .call { callee := .value (.func f), args := x, argTypes := ts }) (hf : hasBody P f = true) (ha : lkAll L x.toList = some args) :
    noSel o.op = true ∧ o.op.operands.all (known L) = true ∧ ∀ w, (execOp (ev L) o).run P w = .ok (.enter f args.toArray) w := by
  obtain ⟨h1, h2⟩ := lkAll_spec ha
  refine ⟨by simp [ho, noSel], ?_, fun w => ?_⟩
  · rw [ho]
    refine Array.all_eq_true_iff_forall_mem.2 fun y hy => ?_
    simp only [Op.operands, Call.operands, Array.mem_append] at hy
    rcases hy with hy | hy
    · simp at hy; subst hy; rfl
    · exact h2 y (by simpa using hy)
  · have hm : x.map (ev L) = args.toArray := by rw [← h1]; cases x; simp
    simp only [execOp, ho, resolve, hm]
    simp [ev, lk, Deferred.ofValue, invoke, run_callFunc hf]
theorem st_call {d : Nat} {f : FuncId} {x : Array Operand} {ts : Array TypeId} {args : List Value} {post : Value → List Res → (Nat → Prop) → World → Prop} (ho : o.op = .call { callee := .value (.func f), args := x, argTypes := ts }) (hg : o.guard = none) (hd : o.dst = some d) (hdN : Nat.blt d N = true)
    (hf : hasBody P f = true) (ha : lkAll L x.toList = some args) (hp : PickL H C R) (hT : TR P f args C S wf post)
    (k : ∀ v C' S' wf', post v C' S' wf' → Ext S wf S' wf' → K ⟨(d, v) :: L, C' ++ R, S', wf'⟩) : OpStep V P Q ops N o ⟨L, H, S, wf⟩ K :=
  have hc := run_call ho hf ha
  .enter hg hd hdN hc.1 hc.2.1 hc.2.2 fun w hw =>
    have hw' := hw.perm hp.perm
    (hT w hw'.enter).mono fun e w' ⟨v, C', S', wf', h1, h2, h3, h4⟩ => ⟨v, _, S', wf', h1, hw'.callS h4, k v C' S' wf' h2 h3⟩
theorem st_callk {d : Nat} {f : FuncId} {x : Array Operand} {ts : Array TypeId} {args : List Value} {r : Value} (ho : o.op = .call { callee := .value (.func f), args := x, argTypes := ts }) (hg : o.guard = none) (hd : o.dst = some d) (hdN : Nat.blt d N = true)
    (hf : hasBody P f = true) (ha : lkAll L x.toList = some args) (hp : PickL H C R) (hT : TR0 P f args C S wf (fun v C' => v = r ∧ C' = C))
    (k : K ⟨(d, r) :: L, H, S, wf⟩) : OpStep V P Q ops N o ⟨L, H, S, wf⟩ K :=
  have hc := run_call ho hf ha
  .enter hg hd hdN hc.1 hc.2.1 hc.2.2 fun w hw =>
    have hw' := hw.perm hp.perm
    (hT w hw'.enter).mono fun e w' ⟨v, C', S', wf', h1, ⟨⟨h2, h3⟩, h5, h6⟩, _, h4⟩ => by
      subst h2 h3 h5 h6
      exact ⟨v, _, _, _, h1, (hw'.callS h4).perm hp.perm.symm, k⟩
theorem st_gcallk {d g t : Nat} {want b : Bool} {f : FuncId} {x : Array Operand} {ts : Array TypeId} {args : List Value} {r : Value} (ho : o.op = .call { callee := .value (.func f), args := x, argTypes := ts }) (hg : o.guard = some (g, want)) (ht : (ops[g]?).bind (·.dst) = some t) (hL : lkp L t = some (.bool b)) (hd : o.dst = some d) (hdN : Nat.blt d N = true)
    (hf : hasBody P f = true) (ha : b = want → lkAll L x.toList = some args) (hp : PickL H C R) (hT : b = want → TR0 P f args C S wf (fun v C' => v = r ∧ C' = C))
    (k : K ⟨(d, gv b want r) :: L, H, S, wf⟩) : OpStep V P Q ops N o ⟨L, H, S, wf⟩ K := by
  refine .split (st := ⟨L, H, S, wf⟩) hg ht hL (fun hb => st_callk ho rfl hd hdN hf (ha hb) hp (hT hb) ?_) hd hdN (fun hb => ?_)
  · rw [show gv b want r = r from if_pos hb] at k
    exact k
  · rw [show gv b want r = undef from if_neg hb] at k
    exact k
theorem st_call0 {d : Nat} {f : FuncId} {x : Array Operand} {ts : Array TypeId} {args : List Value} {post : Value → List Res → Prop} (ho : o.op = .call { callee := .value (.func f), args := x, argTypes := ts }) (hg : o.guard = none) (hd : o.dst = some d) (hdN : Nat.blt d N = true)
    (hf : hasBody P f = true) (ha : lkAll L x.toList = some args) (hp : PickL H C R) (hT : TR0 P f args C S wf post)
    (k : ∀ v C', post v C' → K ⟨(d, v) :: L, C' ++ R, S, wf⟩) : OpStep V P Q ops N o ⟨L, H, S, wf⟩ K :=
  st_call ho hg hd hdN hf ha hp hT (by rintro v C' S' wf' ⟨h1, rfl, rfl⟩ _; exact k v C' h1)
theorem st_call00 {d : Nat} {f : FuncId} {x : Array Operand} {ts : Array TypeId} {args : List Value} {post : Value → List Res → Prop} (ho : o.op = .call { callee := .value (.func f), args := x, argTypes := ts }) (hg : o.guard = none) (hd : o.dst = some d) (hdN : Nat.blt d N = true)
    (hf : hasBody P f = true) (ha : lkAll L x.toList = some args) (hp : PickL H C R) (hT : TR0 P f args C S wf post) (hn : ∀ v C', post v C' → C' = [])
    (k : ∀ v, post v [] → K ⟨(d, v) :: L, R, S, wf⟩) : OpStep V P Q ops N o ⟨L, H, S, wf⟩ K :=
  st_call0 ho hg hd hdN hf ha hp hT (fun v C' h => by
    have := hn v C' h
    subst this
    exact k v h)
theorem lkA0 : lkAll L [] = some [] := rfl
theorem lkA1 {x : Operand} {v : Value} {xs : List Operand} {vs : List Value} (h : lk L x = some v) (k : lkAll L xs = some vs) : lkAll L (x :: xs) = some (v :: vs) := by simp [lkAll, h, k]
theorem st_lend0 {d : Nat} {f : FuncId} {x : Array Operand} {ts : Array TypeId} {args : List Value} {post : Value → List Res → Prop} (ho : o.op = .call { callee := .value (.func f), args := x, argTypes := ts }) (hg : o.guard = none) (hd : o.dst = some d) (hdN : Nat.blt d N = true)
    (hf : hasBody P f = true) (ha : lkAll L x.toList = some args) {R0 : List Res} (hp : PickL H C R0) (hp1 : PickL R0 R1 R) (hT : ∀ w, WW V S wf (C ++ (R1 ++ R)) w → TR0 P f args C (fun b => S b ∨ b ∈ feet R1) w post)
    (k : ∀ v C', post v C' → K ⟨(d, v) :: L, C' ++ (R1 ++ R), S, wf⟩) : OpStep V P Q ops N o ⟨L, H, S, wf⟩ K :=
  have hc := run_call ho hf ha
  .enter hg hd hdN hc.1 hc.2.1 hc.2.2 fun w hw =>
    have hw' := hw.perm (hp.perm.trans (List.Perm.append_left C hp1.perm))
    (hT w hw' w hw'.lend).mono fun e w' ⟨v, C', S', wf', h1, ⟨h2, h5, h6⟩, h3, h4⟩ => ⟨v, _, S, wf, h1, hw'.call h4, k v C' h2⟩
theorem SC.seq {x y : Code} (h : SC V P (Exit.then (y.wp P Q) Q) N x st) : SC V P Q N (.seq x y) st := fun a w hs hw => wp_seq (h a w hs hw)
theorem SC.skip (h : SQ V (Q .normal) N st) : SC V P Q N .skip st := fun a w hs hw => wp_skip (h a w hs hw)
theorem SC.block {id : Nat} {c : Code} (h : SC V P (Exit.inBlock id Q) N c st) : SC V P Q N (.block id c) st := fun a w hs hw => wp_block (h a w hs hw)
theorem SC.exit {id : Nat} {y : Code} {Q1 : Exit → Act → World → Prop} (hQ : ∀ a w, y.wp P Q1 a w → Q (.exit id) a w) (h : SC V P Q1 N y st) : SC V P Q N (.exit id) st := fun a w hs hw => wp_exit (hQ a w (h a w hs hw))
theorem SC.ret {Q1 : Act → World → Prop} (hQ : ∀ a w, Q1 a w → Q .ret a w) (h : SQ V Q1 N st) : SC V P Q N .ret st := fun a w hs hw => wp_ret (hQ a w (h a w hs hw))
theorem SP.go {y : Code} {Q1 : Exit → Act → World → Prop} (hQ : ∀ a w, y.wp P Q1 a w → Q .normal a w) (h : SC V P Q1 N y st) : SP V P Q ops N [] st := fun a w hs hw => hQ a w (h a w hs hw)
theorem SC.skipgo {y : Code} {Q1 : Exit → Act → World → Prop} (hQ : ∀ a w, y.wp P Q1 a w → Q .normal a w) (h : SC V P Q1 N y st) : SC V P Q N .skip st := fun a w hs hw => wp_skip (hQ a w (h a w hs hw))
theorem SC.region {id : Nat} {l : List Oper} (h : SP V P Q l.toArray N l st) : SC V P Q N (.region id l.toArray false) st := fun a w hs hw => wp_region_lit (h a w hs hw)
theorem SC.cond {c : Operand} {x y : Code} {b : Bool} (hc : lk st.L c = some (.bool b)) (ht : b = true → SC V P Q N x st) (hf : b = false → SC V P Q N y st) : SC V P Q N (.cond c x y) st :=
  fun a w hs hw => wp_cond_split (hs.eval hc) (fun h => ht h a w hs hw) (fun h => hf h a w hs hw)
theorem SC.condI {c : Operand} {x y : Code} {b : Bool} {p : Prop} (hc : lk st.L c = some (.bool b)) (hp : b = true ↔ p) (ht : p → SC V P Q N x st) (hf : ¬ p → SC V P Q N y st) : SC V P Q N (.cond c x y) st :=
  .cond hc (fun h => ht (bT hp h)) (fun h => hf (bF hp h))
theorem SC.cond_t {c : Operand} {x y : Code} (hc : lk st.L c = some (.bool true)) (h : SC V P Q N x st) : SC V P Q N (.cond c x y) st := .cond hc (fun _ => h) (fun h => by cases h)
theorem SC.cond_f {c : Operand} {x y : Code} (hc : lk st.L c = some (.bool false)) (h : SC V P Q N y st) : SC V P Q N (.cond c x y) st := .cond hc (fun h => by cases h) (fun _ => h)
inductive Sub (L : List (Nat × Value)) : List (Nat × Value) → Prop where
  | n : Sub L []
  | c {k : Nat} {v : Value} {r : List (Nat × Value)} : lkp L k = some v → Sub L r → Sub L ((k, v) :: r)
theorem Sub.get {L L' : List (Nat × Value)} (h : Sub L L') : ∀ k v, lkp L' k = some v → lkp L k = some v := by
  induction h with
  | n => intro k v hk; simp [lkp] at hk
  | c h1 _ ih =>
    intro k v hk
    rename_i k' v' r _
    unfold lkp at hk
    cases hq : Nat.beq k k' with
    | true =>
      have := Nat.eq_of_beq_eq_true hq
      subst this
      rw [hq] at hk
      simp at hk
      subst hk
      exact h1
    | false =>
      rw [hq] at hk
      exact ih k v hk
theorem SC.loop {c : Code} {X : Type} (I : X → Prop) (Lf : X → List (Nat × Value)) (Hf : X → List Res) (Sf : X → Nat → Prop) (Wf : X → World) (μ : X → Nat)
    (h0 : ∀ a w, SL N st.L a → WW V st.S st.wf st.H w → ∃ x, I x ∧ SL N (Lf x) a ∧ WW V (Sf x) (Wf x) (Hf x) w)
    (h : ∀ x, I x → SC V P (Exit.then (fun a w => ∃ y, (I y ∧ μ y < μ x) ∧ SL N (Lf y) a ∧ WW V (Sf y) (Wf y) (Hf y) w) Q) N c ⟨Lf x, Hf x, Sf x, Wf x⟩) : SC V P Q N (.loop c) st := by
  intro a w hs hw
  obtain ⟨x0, hi0, hs0, hw0⟩ := h0 a w hs hw
  refine wp_loop_ghost (fun n a w => ∃ x, μ x = n ∧ I x ∧ SL N (Lf x) a ∧ WW V (Sf x) (Wf x) (Hf x) w) (μ x0) ⟨x0, rfl, hi0, hs0, hw0⟩ ?_
  rintro n a w ⟨x, rfl, hi, hs, hw⟩
  refine wp_mono (h x hi a w hs hw) fun e a w q => ?_
  cases e with
  | normal =>
    obtain ⟨y, ⟨hy, hlt⟩, h1, h2⟩ := q
    exact ⟨μ y, hlt, y, rfl, hy, h1, h2⟩
  | exit id => exact q
  | goto l => exact q
  | ret => exact q
  | panic ch => exact q
  | outgrown => exact q
def enum0 : Nat → List Value → List (Nat × Value)
  | _, [] => []
  | k, v :: r => (k, v) :: enum0 (k + 1) r
theorem enum0_spec : ∀ (vs : List Value) (k j : Nat) (v : Value), lkp (enum0 k vs) j = some v → k ≤ j ∧ vs[j - k]? = some v
  | [], k, j, v, h => by simp [enum0, lkp] at h
  | u :: r, k, j, v, h => by
    unfold enum0 lkp at h
    cases hq : Nat.beq j k with
    | true =>
      have := Nat.eq_of_beq_eq_true hq
      subst this
      rw [hq] at h
      simp at h
      subst h
      exact ⟨Nat.le_refl _, by simp⟩
    | false =>
      rw [hq] at h
      have hne : j ≠ k := fun e => by subst e; simp at hq
      obtain ⟨h1, h2⟩ := enum0_spec r (k + 1) j v h
      refine ⟨by omega, ?_⟩
      rw [show j - k = (j - (k + 1)) + 1 from by omega, List.getElem?_cons_succ]
      exact h2
theorem TR.mk {f : FuncId} {fn : Func} {c : Code} {args : List Value} {post : Value → List Res → (Nat → Prop) → World → Prop} {L0 : List (Nat × Value)} (hf : P.funcs[f]? = some fn) (hb : fn.body = some c) (hN : fn.ntmps = N) (hn : Nat.ble args.length N = true) (hL : enum0 0 args = L0)
    (h : ∀ w, SC (env w C S) P (bodyPost P fn (TRp (env w C S) S wf post)) N c ⟨L0, C, S, wf⟩) : TR P f args C S wf post := by
  intro w hw
  refine calls_of_wp hf hb ?_
  have hle : args.length ≤ N := Nat.le_of_ble_eq_true hn
  refine h w _ w ⟨?_, rfl, fun k v hk => ?_⟩ hw
  · simp [hN]; omega
  · subst hL
    obtain ⟨_, h2⟩ := enum0_spec args 0 k v hk
    simp only [Nat.sub_zero] at h2
    have hlt : k < args.length := (List.getElem?_eq_some_iff.1 h2).1
    simp only [Array.getD_eq_getD_getElem?]
    rw [Array.getElem?_append_left (by simpa using hlt)]
    simp [h2]
theorem WW.keep {w : World} (h : WW V S wf H w) (hp : PickL H C R) : WW V S wf C w :=
  (h.perm (hp.perm.trans List.perm_append_comm)).drop
theorem run_results1 {fn : Func} {t : Nat} {v : Value} {a : Act} {w : World} (hr : fn.results = #[.tmp t]) (hs : SL N L a) (hv : lkp L t = some v) : (results fn a.tmps).run P w = .ok v w := by
  rw [results_tmp hr, hs.2.2 t v hv]
theorem run_results2 {fn : Func} {t u : Nat} {v v' : Value} {a : Act} {w : World} (hr : fn.results = #[.tmp t, .tmp u]) (hs : SL N L a) (hv : lkp L t = some v) (hv' : lkp L u = some v') : (results fn a.tmps).run P w = .ok (.tuple #[v, v']) w := by
  rw [results_tmp2 hr, hs.2.2 t v hv, hs.2.2 u v' hv']
theorem run_results3 {fn : Func} {t u x : Nat} {v v' v'' : Value} {a : Act} {w : World} (hr : fn.results = #[.tmp t, .tmp u, .tmp x]) (hs : SL N L a) (hv : lkp L t = some v) (hv' : lkp L u = some v') (hv'' : lkp L x = some v'') : (results fn a.tmps).run P w = .ok (.tuple #[v, v', v'']) w := by
  rw [← hs.2.2 t v hv, ← hs.2.2 u v' hv', ← hs.2.2 x v'' hv'']
  simp [results, hr]
theorem Ext.of_fz {w : World} (h : WW V S wf H w) : Ext S wf S wf := fun b hb => ⟨hb, (h.fz b hb).1, rfl⟩
theorem ret1 {fn : Func} {t : Nat} {v : Value} {post : Value → List Res → Prop} (hr : fn.results = #[.tmp t]) (hv : lkp L t = some v) (hp : PickL H C R) (h : post v C) :
    SQ V (bodyPost P fn (TRp V S wf fun v C' S' wf' => post v C' ∧ S' = S ∧ wf' = wf) .ret) N ⟨L, H, S, wf⟩ := fun a w hs hw =>
  ⟨hs.2.1, v, run_results1 hr hs hv, v, C, S, wf, rfl, ⟨h, rfl, rfl⟩, .of_fz hw, hw.keep hp⟩
theorem ret2 {fn : Func} {t u : Nat} {v v' : Value} {post : Value → List Res → Prop} (hr : fn.results = #[.tmp t, .tmp u]) (hv : lkp L t = some v) (hv' : lkp L u = some v') (hp : PickL H C R) (h : post (.tuple #[v, v']) C) :
    SQ V (bodyPost P fn (TRp V S wf fun v C' S' wf' => post v C' ∧ S' = S ∧ wf' = wf) .ret) N ⟨L, H, S, wf⟩ := fun a w hs hw =>
  ⟨hs.2.1, _, run_results2 hr hs hv hv', _, C, S, wf, rfl, ⟨h, rfl, rfl⟩, .of_fz hw, hw.keep hp⟩
theorem ret3 {fn : Func} {t u x : Nat} {v v' v'' : Value} {post : Value → List Res → Prop} (hr : fn.results = #[.tmp t, .tmp u, .tmp x]) (hv : lkp L t = some v) (hv' : lkp L u = some v') (hv'' : lkp L x = some v'') (hp : PickL H C R) (h : post (.tuple #[v, v', v'']) C) :
    SQ V (bodyPost P fn (TRp V S wf fun v C' S' wf' => post v C' ∧ S' = S ∧ wf' = wf) .ret) N ⟨L, H, S, wf⟩ := fun a w hs hw =>
  ⟨hs.2.1, _, run_results3 hr hs hv hv' hv'', _, C, S, wf, rfl, ⟨h, rfl, rfl⟩, .of_fz hw, hw.keep hp⟩
theorem ret0 {fn : Func} {post : Value → List Res → Prop} (hr : fn.results = #[]) (hp : PickL H C R) (h : post (.tuple #[]) C) :
    SQ V (bodyPost P fn (TRp V S wf fun v C' S' wf' => post v C' ∧ S' = S ∧ wf' = wf) .ret) N ⟨L, H, S, wf⟩ := fun a w hs hw =>
  ⟨hs.2.1, _, results_none hr _ _ _, _, C, S, wf, rfl, ⟨h, rfl, rfl⟩, .of_fz hw, hw.keep hp⟩
theorem end0 {fn : Func} {post : Value → List Res → Prop} (hr : fn.results = #[]) (hp : PickL H C R) (h : post (.tuple #[]) C) :
    SQ V (bodyPost P fn (TRp V S wf fun v C' S' wf' => post v C' ∧ S' = S ∧ wf' = wf) .normal) N ⟨L, H, S, wf⟩ := fun a w hs hw =>
  ⟨hs.2.1, _, results_none hr _ _ _, _, C, S, wf, rfl, ⟨h, rfl, rfl⟩, .of_fz hw, hw.keep hp⟩
end
end Go.SX
namespace Go.SX
open Go Go.RowKit
def TT (B : World → Prop) (cs : List (Nat × (World → Prop))) (listed : Array Bool) (w : World) : Prop := B w ∧ ∀ c ∈ cs, listed.getD c.1 true = false → c.2 w
def wpAnyJ (P : Program) (ops : Array Oper) (Q : Exit → Act → World → Prop) (T : Array Bool → World → Prop) : Nat → Array Bool → Act → World → Prop
  | 0, listed, a, w => Region.ready .any ops listed = [] ∧ Q .normal a w
  | fuel + 1, listed, a, w =>
    (Region.ready .any ops listed = [] → Q .normal a w) ∧
    ∀ i ∈ Region.ready .any ops listed, wpOp P ops Q i (fun a' w' => T (listed.setIfInBounds i true) w' ∧ wpAnyJ P ops Q T fuel (listed.setIfInBounds i true) a' w') a w
def Closed (ops : Array Oper) (listed : Array Bool) : Prop := listed.size = ops.size ∧ ∀ k ok, ops[k]? = some ok → listed.getD k false = true → ∀ e ∈ ok.after, Region.binds .any e = true → listed.getD e.on false = true
def waitsFor (ops : Array Oper) (k i : Nat) : Bool := match ops[k]? with
  | some ok => ok.after.any fun e => Region.binds .any e && e.on == i
  | none => false
section
variable {P : Program} {ops : Array Oper} {Q : Exit → Act → World → Prop} {B : World → Prop} {cs : List (Nat × (World → Prop))}
theorem wpAny_of_J {T : Array Bool → World → Prop} : ∀ (fuel : Nat) (listed : Array Bool) (a : Act) (w : World), wpAnyJ P ops Q T fuel listed a w → wpAny P .any ops Q fuel listed a w
  | 0, _, _, _, h => h
  | fuel + 1, _, _, _, h => ⟨h.1, fun i hi => wpOp_mono (fun a' w' h' => wpAny_of_J fuel _ a' w' h'.2) (h.2 i hi)⟩
theorem Closed.set {listed : Array Bool} {j : Nat} (h : Closed ops listed) (hj : j ∈ Region.ready .any ops listed) : Closed ops (listed.setIfInBounds j true) := by
  obtain ⟨_, oj, hoj, hall⟩ := mem_ready.1 hj
  refine ⟨by simpa using h.1, fun k ok hk hl e he hb => getD_set_true ?_⟩
  by_cases hkj : k = j
  · subst hkj
    rw [hoj] at hk
    cases hk
    exact hall e he hb
  · rw [getD_set_ne false (Ne.symm hkj)] at hl
    exact h.2 k ok hk hl e he hb
theorem Closed.start (ops : Array Oper) : Closed ops (Array.replicate ops.size false) := by
  refine ⟨by simp, fun k ok hk hl => ?_⟩
  simp only [Array.getD_eq_getD_getElem?, Array.getElem?_replicate] at hl
  split at hl <;> simp at hl
theorem TT.get {listed : Array Bool} {i : Nat} {w : World} (hc : Closed ops listed) (hi : listed.getD i true = false) (h : TT B cs listed w) : ∀ c ∈ cs, waitsFor ops c.1 i = true → c.2 w := by
  intro c hcs hw
  refine h.2 c hcs ?_
  unfold waitsFor at hw
  cases hk : ops[c.1]? with
  | none => rw [hk] at hw; simp at hw
  | some ok =>
    rw [hk] at hw
    have hlt : c.1 < listed.size := by rw [hc.1]; exact (Array.getElem?_eq_some_iff.1 hk).1
    obtain ⟨e, he, hb⟩ := Array.any_eq_true'.1 hw
    simp only [Bool.and_eq_true, beq_iff_eq] at hb
    cases hq : listed.getD c.1 true with
    | false => rfl
    | true =>
      have h1 : listed.getD c.1 false = true := by
        simp only [Array.getD_eq_getD_getElem?, Array.getElem?_eq_getElem hlt, Option.getD_some] at hq ⊢
        exact hq
      have h2 := hc.2 c.1 ok hk h1 e he hb.1
      rw [hb.2] at h2
      rcases Nat.lt_or_ge i listed.size with h' | h'
      · simp only [Array.getD_eq_getD_getElem?, Array.getElem?_eq_getElem h', Option.getD_some] at hi h2
        rw [hi] at h2
        cases h2
      · simp [Array.getElem?_eq_none h'] at h2
theorem TT.set {listed : Array Bool} {i : Nat} {w : World} (hi : ∀ c ∈ cs, c.1 ≠ i) : TT B cs (listed.setIfInBounds i true) w ↔ TT B cs listed w := by
  unfold TT
  refine and_congr_right fun _ => ⟨fun h c hc hl => h c hc ?_, fun h c hc hl => h c hc ?_⟩
  · rw [getD_set_ne true (Ne.symm (hi c hc))]; exact hl
  · rw [getD_set_ne true (Ne.symm (hi c hc))] at hl; exact hl
theorem wpAnyJ_first {i : Nat} {oi : Oper} {v : Value} (hi : ops[i]? = some oi) (hsel : ∀ (j : Nat) (o : Oper) cs b, ops[j]? = some o → o.op ≠ .select cs b)
    (hQ : ∀ c a w, Q (.panic c) (a.put oi.dst v) w → Q (.panic c) a w) (hni : ∀ c ∈ cs, c.1 ≠ i) :
    ∀ (fuel : Nat) (listed : Array Bool) (a : Act) (w : World), Closed ops listed →
      (∀ j oj, ops[j]? = some oj → j ≠ i → listed.getD j true = false → (∀ e ∈ oj.after, Region.binds .any e = true → e.on ≠ i) → oi.apart ops oj = true) →
      i ∈ Region.ready .any ops listed → YieldsIf P ops (fun w => B w ∧ ∀ c ∈ cs, waitsFor ops c.1 i = true → c.2 w) oi v a → TT B cs listed w →
      wpAnyJ P ops Q (TT B cs) fuel (listed.setIfInBounds i true) (a.put oi.dst v) w → wpAnyJ P ops Q (TT B cs) (fuel + 1) listed a w := by
  intro fuel
  induction fuel with
  | zero =>
    intro listed a w hcl _ hr hy hS H
    refine ⟨fun h => (by rw [h] at hr; cases hr), fun j hj => ?_⟩
    by_cases hji : j = i
    · subst hji
      exact hy.wpOp hi ⟨hS.1, hS.get hcl (mem_ready.1 hr).1⟩ ⟨(TT.set hni).2 hS, H⟩
    · have := ready_mono hj hji
      rw [H.1] at this
      cases this
  | succ fuel ih =>
    intro listed a w hcl hfree hr hy hS H
    refine ⟨fun h => (by rw [h] at hr; cases hr), fun j hj => ?_⟩
    by_cases hji : j = i
    · subst hji
      exact hy.wpOp hi ⟨hS.1, hS.get hcl (mem_ready.1 hr).1⟩ ⟨(TT.set hni).2 hS, H⟩
    · have h1 := H.2 j (ready_mono hj hji)
      obtain ⟨hjun, oj, hoj, hall⟩ := mem_ready.1 hj
      have hnot : ∀ e ∈ oj.after, Region.binds .any e = true → e.on ≠ i := fun e he hb heq => by
        have h1 := hall e he hb
        have h0 := (mem_ready.1 hr).1
        rw [heq] at h1
        rcases Nat.lt_or_ge i listed.size with h' | h'
        · simp [h'] at h0 h1; rw [h0] at h1; cases h1
        · simp [Array.getElem?_eq_none h'] at h1
      have h2 := wpOp_putIf hoj (hfree j oj hoj hji hjun hnot) (fun cs b => hsel i oi cs b hi) (fun cs b => hsel j oj cs b hoj) hQ hy h1
      have hfree' : ∀ k ok, ops[k]? = some ok → k ≠ i → (listed.setIfInBounds j true).getD k true = false →
          (∀ e ∈ ok.after, Region.binds .any e = true → e.on ≠ i) → oi.apart ops ok = true := fun k ok hk hki hun hno => by
        refine hfree k ok hk hki ?_ hno
        by_cases hjk : j = k
        · subst hjk; exact hjun
        · rw [getD_set_ne true hjk] at hun; exact hun
      refine wpOp_mono (fun a' w' h3 => ?_) h2
      have h4 := h3.2.1
      rw [Array.setIfInBounds_comm _ _ (Ne.symm hji)] at h4
      have h5 := (TT.set hni).1 h4
      refine ⟨h5, ih (listed.setIfInBounds j true) a' w' (hcl.set hj) hfree' (ready_mono hr (Ne.symm hji)) h3.1 h5 ?_⟩
      rw [Array.setIfInBounds_comm _ _ hji]
      exact h3.2.2
end
structure Lent (V : Env) (S : Nat → Prop) (R : List Res) : Prop where
  nd : (feet R).Nodup
  sep : ∀ b ∈ feet R, ¬ S b ∧ (V.M b ∨ V.E.heap.size ≤ b)
def SR (V : Env) (P : Program) (Q : Exit → Act → World → Prop) (ops : Array Oper) (N : Nat) (B : World → Prop) (cs : List (Nat × (World → Prop))) (fuel : Nat) (listed : Array Bool) (st : St) : Prop :=
  ∀ a w, SL N st.L a → WW V st.S st.wf st.H w → TT B cs listed w → Closed ops listed → wpAnyJ P ops Q (TT B cs) fuel listed a w
section
variable {V : Env} {P : Program} {Q : Exit → Act → World → Prop} {ops : Array Oper} {N : Nat} {o : Oper} {rest : List Oper} {L : List (Nat × Value)} {H R C R1 : List Res} {S : Nat → Prop} {wf : World} {K : St → Prop} {st : St}
  {B : World → Prop} {cs : List (Nat × (World → Prop))} {fuel : Nat} {listed : Array Bool}
theorem WW.lent {w : World} (h : WW V S wf (C ++ R) w) : Lent V S R ∧ Ext S wf (fun b => S b ∨ b ∈ feet R) w ∧ (∀ r ∈ R, r.holds w) ∧ WW V (fun b => S b ∨ b ∈ feet R) w C w := by
  have hn := h.nd
  rw [feet_append] at hn
  obtain ⟨h1, h2, h3⟩ := List.nodup_append.1 hn
  have hs := fun b (hb : b ∈ feet R) => h.sep b (by rw [feet_append]; exact List.mem_append_right _ hb)
  refine ⟨⟨h2, hs⟩, fun b hb => ⟨.inl hb, (h.fz b hb).1, (h.fz b hb).2⟩, fun r hr => h.has r (List.mem_append_right _ hr), ?_⟩
  exact {
    has := fun r hr => h.has r (List.mem_append_left _ hr)
    nd := h1
    sep := fun b hb => ⟨fun hsb => hsb.elim (h.sep b (by rw [feet_append]; exact List.mem_append_left _ hb)).1 (fun hr => h3 b hb b hr rfl), (h.sep b (by rw [feet_append]; exact List.mem_append_left _ hb)).2⟩
    fz := fun b hb => ⟨hb.elim (fun hb => h.fz.lt hb) (fun hb => h.lt b (by rw [feet_append]; exact List.mem_append_right _ hb)), rfl⟩
    new := fun b hb => hb.elim (h.new b) (fun hb => .inr (hs b hb).2)
    fr := h.fr, sz := h.sz, os := h.os, tape := h.tape, output := h.output }
theorem WW.back {w wf1 : World} {C' : List Res} (hl : Lent V S R) (hx : Ext S wf (fun b => S b ∨ b ∈ feet R) wf1) (hr : ∀ r ∈ R, r.holds wf1) (h : WW V (fun b => S b ∨ b ∈ feet R) wf1 C' w) : WW V S wf (C' ++ R) w where
  has r hm := by
    rcases List.mem_append.1 hm with hm | hm
    · exact h.has r hm
    · exact r.stable wf1 w (fun b hb => (h.fz b (.inr (mem_feet.2 ⟨r, hm, hb⟩))).2) (hr r hm)
  nd := by
    rw [feet_append]
    exact List.nodup_append.2 ⟨h.nd, hl.nd, fun a ha b hb e => (h.sep a ha).1 (.inr (e ▸ hb))⟩
  sep b hb := by
    rw [feet_append] at hb
    rcases List.mem_append.1 hb with hb | hb
    · exact ⟨fun hs => (h.sep b hb).1 (.inl hs), (h.sep b hb).2⟩
    · exact hl.sep b hb
  fz b hb := by
    obtain ⟨h1, h2, h3⟩ := hx b hb
    exact ⟨h2, ((h.fz b h1).2).trans h3⟩
  new b hb := h.new b (.inl hb)
  fr := h.fr
  sz := h.sz
  os := h.os
  tape := h.tape
  output := h.output
theorem SC.draw {id : Nat} (hm : P.follows .mixedOrders = true) (C : List Res) (cs : List (Nat × (World → Prop))) (hp : PickL H C R)
    (hc : ∀ w wf1, WW V (fun b => S b ∨ b ∈ feet R) wf1 C w → ∀ c ∈ cs, c.2 w)
    (k : ∀ wf1, Lent V S R → Ext S wf (fun b => S b ∨ b ∈ feet R) wf1 → (∀ r ∈ R, r.holds wf1) →
      SR V P Q ops N (Fz (fun b => S b ∨ b ∈ feet R) wf1) cs ops.size (Array.replicate ops.size false) ⟨L, C, fun b => S b ∨ b ∈ feet R, wf1⟩) : SC V P Q N (.region id ops true) ⟨L, H, S, wf⟩ := by
  intro a w hs hw
  obtain ⟨h1, h2, h3, h4⟩ := ((hw.perm hp.perm).drew).lent
  exact wp_region_any hm (wpAny_of_J _ _ _ _ (k _ h1 h2 h3 a _ hs h4 ⟨h4.fz, fun c hcs _ => hc _ _ h4 c hcs⟩ (Closed.start ops)))
theorem SR.take {v : Value} {d : Nat} (i : Nat) (hi : ops[i]? = some o) (hs : Region.noSelect ops = true) (hf : Region.free .any ops listed i = true) (hr : (Region.ready .any ops listed).contains i = true)
    (hni : (cs.map (·.1)).contains i = false) (hQ : ∀ c a w, Q (.panic c) (a.put o.dst v) w → Q (.panic c) a w) (hg : o.guard = none) (hd : o.dst = some d) (hdN : Nat.blt d N = true)
    (h : Ev P (fun w => B w ∧ ∀ c ∈ cs, waitsFor ops c.1 i = true → c.2 w) L o v)
    (k : SR V P Q ops N B cs fuel (listed.setIfInBounds i true) ⟨(d, v) :: L, H, S, wf⟩) : SR V P Q ops N B cs (fuel + 1) listed ⟨L, H, S, wf⟩ := by
  intro a w hsl hw hT hcl
  have hr' : i ∈ Region.ready .any ops listed := by simpa using hr
  have hni' : ∀ c ∈ cs, c.1 ≠ i := fun c hc e => by
    have : (cs.map (·.1)).contains i = true := by simp; exact ⟨c.2, by rw [← e]; exact hc⟩
    rw [this] at hni
    cases hni
  refine wpAnyJ_first hi (Region.noSelect_spec hs) hQ hni' fuel listed a w hcl (Region.free_spec hi hf) hr' (.inl ⟨by simp [Region.wanted, hg], fun w' hw' => ?_⟩) hT ?_
  · rw [exec_ev hsl h.1 h.2.1]
    exact h.2.2 w' hw'
  · rw [hd]
    exact k _ _ (hsl.put hdN v) hw ((TT.set hni').2 hT) (hcl.set hr')
theorem SR.gtake {v : Value} {d g t : Nat} {want b : Bool} (i : Nat) (hi : ops[i]? = some o) (hs : Region.noSelect ops = true) (hf : Region.free .any ops listed i = true) (hr : (Region.ready .any ops listed).contains i = true)
    (hni : (cs.map (·.1)).contains i = false) (hQ : ∀ c a w v, Q (.panic c) (a.put o.dst v) w → Q (.panic c) a w) (hg : o.guard = some (g, want)) (ht : (ops[g]?).bind (·.dst) = some t) (hL : lkp L t = some (.bool b)) (hd : o.dst = some d) (hdN : Nat.blt d N = true)
    (h : b = want → Ev P (fun w => B w ∧ ∀ c ∈ cs, waitsFor ops c.1 i = true → c.2 w) L o v)
    (k : SR V P Q ops N B cs fuel (listed.setIfInBounds i true) ⟨(d, gv b want v) :: L, H, S, wf⟩) : SR V P Q ops N B cs (fuel + 1) listed ⟨L, H, S, wf⟩ := by
  intro a w hsl hw hT hcl
  have hr' : i ∈ Region.ready .any ops listed := by simpa using hr
  have hni' : ∀ c ∈ cs, c.1 ≠ i := fun c hc e => by
    have : (cs.map (·.1)).contains i = true := by simp; exact ⟨c.2, by rw [← e]; exact hc⟩
    rw [this] at hni
    cases hni
  have hy := yielded_of hsl ht hL
  refine wpAnyJ_first (v := gv b want v) hi (Region.noSelect_spec hs) (fun c a w h => hQ c a w _ h) hni' fuel listed a w hcl (Region.free_spec hi hf) hr' ?_ hT ?_
  · by_cases hb : b = want
    · refine .inl ⟨by simp [Region.wanted, hg, hy, hb], fun w' hw' => ?_⟩
      rw [exec_ev hsl (h hb).1 (h hb).2.1, show gv b want v = v from if_pos hb]
      exact (h hb).2.2 w' hw'
    · exact .inr ⟨by simp [Region.wanted, hg, hy, hb], if_neg hb⟩
  · rw [hd]
    exact k _ _ (hsl.put hdN _) hw ((TT.set hni').2 hT) (hcl.set hr')
def SR1 (V : Env) (P : Program) (Q : Exit → Act → World → Prop) (ops : Array Oper) (N : Nat) (B : World → Prop) (cs : List (Nat × (World → Prop))) (fuel : Nat) (listed : Array Bool) (st : St) (j : Nat) : Prop :=
  ∃ o, ops[j]? = some o ∧ OpStep V P Q ops N o st fun st' => (∀ w, WW V st'.S st'.wf st'.H w → TT B cs (listed.setIfInBounds j true) w) ∧ SR V P Q ops N B cs fuel (listed.setIfInBounds j true) st'
theorem SR.branch {rs : List Nat} (hr : Region.ready .any ops listed = rs) (hne : rs ≠ []) (h : ∀ j ∈ rs, SR1 V P Q ops N B cs fuel listed st j) : SR V P Q ops N B cs (fuel + 1) listed st := by
  intro a w hs hw hT hcl
  refine ⟨fun h0 => absurd (hr ▸ h0) hne, fun j hj => ?_⟩
  obtain ⟨o, ho, hst⟩ := h j (hr ▸ hj)
  have := hst a w hs hw (fun a' w' => TT B cs (listed.setIfInBounds j true) w' ∧ wpAnyJ P ops Q (TT B cs) fuel (listed.setIfInBounds j true) a' w')
    (fun st' k a' w' h1 h2 => ⟨k.1 w' h2, k.2 a' w' h1 h2 (k.1 w' h2) (hcl.set hj)⟩)
  unfold Step1 at this
  unfold wpOp
  rw [ho]
  exact this
theorem SR.one {j : Nat} (hr : Region.ready .any ops listed = [j]) (ho : ops[j]? = some o)
    (h : OpStep V P Q ops N o st fun st' => (∀ w, WW V st'.S st'.wf st'.H w → TT B cs (listed.setIfInBounds j true) w) ∧ SR V P Q ops N B cs fuel (listed.setIfInBounds j true) st') : SR V P Q ops N B cs (fuel + 1) listed st :=
  .branch hr (by simp) fun i hi => by simp at hi; subst hi; exact ⟨o, ho, h⟩
theorem SR.two {i j : Nat} (hr : Region.ready .any ops listed = [i, j]) (h1 : SR1 V P Q ops N B cs fuel listed st i) (h2 : SR1 V P Q ops N B cs fuel listed st j) : SR V P Q ops N B cs (fuel + 1) listed st :=
  .branch hr (by simp) fun k hk => by simp at hk; rcases hk with rfl | rfl <;> assumption
theorem tt0 {S1 : Nat → Prop} {wf1 : World} {l : Array Bool} : ∀ w, WW V S1 wf1 H w → TT (Fz S1 wf1) [] l w := fun w hw => ⟨hw.fz, fun c hc => by cases hc⟩
theorem SR.done {wf1 : World} {C' : List Res} (hr : Region.ready .any ops listed = []) (hl : Lent V S R) (hx : Ext S wf (fun b => S b ∨ b ∈ feet R) wf1) (hR : ∀ r ∈ R, r.holds wf1)
    (h : SQ V (Q .normal) N ⟨L, C' ++ R, S, wf⟩) : SR V P Q ops N B cs fuel listed ⟨L, C', fun b => S b ∨ b ∈ feet R, wf1⟩ := by
  intro a w hs hw hT hcl
  have hq : Q .normal a w := h a w hs (WW.back hl hx hR hw)
  cases fuel with
  | zero => exact ⟨hr, hq⟩
  | succ n => exact ⟨fun _ => hq, by rw [hr]; simp⟩
end
end Go.SX
namespace Go.SX
open Go Go.RowKit
section
variable {V : Env} {P : Program} {Q : Exit → Act → World → Prop} {ops : Array Oper} {N : Nat} {o : Oper} {rest : List Oper} {L : List (Nat × Value)} {H : List Res} {S : Nat → Prop} {wf : World}
  {B : World → Prop} {cs : List (Nat × (World → Prop))} {fuel : Nat} {listed : Array Bool}
theorem SP.ev {d : Nat} {v : Value} (h : Ev P (WW V S wf H) L o v) (hg : o.guard = none) (hd : o.dst = some d) (hdN : Nat.blt d N = true) (k : SP V P Q ops N rest ⟨(d, v) :: L, H, S, wf⟩) : SP V P Q ops N (o :: rest) ⟨L, H, S, wf⟩ := .cons (h.step hg hd hdN k)
theorem SR.tk {v : Value} {d : Nat} (i : Nat) (hi : ops[i]? = some o) (hb : (Region.noSelect ops && (Region.free .any ops listed i && ((Region.ready .any ops listed).contains i && !(cs.map (·.1)).contains i))) = true) (hg : o.guard = none) (hd : o.dst = some d) (hdN : Nat.blt d N = true)
    (h : Ev P (fun w => B w ∧ ∀ c ∈ cs, waitsFor ops c.1 i = true → c.2 w) L o v)
    (k : SR V P Q ops N B cs fuel (listed.setIfInBounds i true) ⟨(d, v) :: L, H, S, wf⟩) (hQ : ∀ c a w, Q (.panic c) (a.put o.dst v) w → Q (.panic c) a w := by exact fun _ _ _ h => h) : SR V P Q ops N B cs (fuel + 1) listed ⟨L, H, S, wf⟩ := by
  simp only [Bool.and_eq_true, Bool.not_eq_true'] at hb
  exact .take i hi hb.1 hb.2.1 hb.2.2.1 hb.2.2.2 hQ hg hd hdN h k
theorem SP.v {d : Nat} {v : Value} (h : Ev P (WW V S wf H) L o v) (q : (o.guard, o.dst, Nat.blt d N) = (none, some d, true)) (k : SP V P Q ops N rest ⟨(d, v) :: L, H, S, wf⟩) : SP V P Q ops N (o :: rest) ⟨L, H, S, wf⟩ := by
  simp only [Prod.mk.injEq] at q
  exact .cons (h.step q.1 q.2.1 q.2.2 k)
theorem SR.k {v : Value} {d : Nat} (i : Nat) (hi : ops[i]? = some o) (hb : (Region.noSelect ops && (Region.free .any ops listed i && ((Region.ready .any ops listed).contains i && !(cs.map (·.1)).contains i))) = true) (q : (o.guard, o.dst, Nat.blt d N) = (none, some d, true))
    (h : Ev P (fun w => B w ∧ ∀ c ∈ cs, waitsFor ops c.1 i = true → c.2 w) L o v)
    (k : SR V P Q ops N B cs fuel (listed.setIfInBounds i true) ⟨(d, v) :: L, H, S, wf⟩) (hQ : ∀ c a w, Q (.panic c) (a.put o.dst v) w → Q (.panic c) a w := by exact fun _ _ _ h => h) : SR V P Q ops N B cs (fuel + 1) listed ⟨L, H, S, wf⟩ := by
  simp only [Prod.mk.injEq] at q
  exact .tk i hi hb q.1 q.2.1 q.2.2 h k hQ
theorem SP.w {v : Value} {d g t : Nat} {want b : Bool} (h : b = want → Ev P (WW V S wf H) L o v) (q : (o.guard, (ops[g]?).bind (·.dst), lkp L t, o.dst, Nat.blt d N) = (some (g, want), some t, some (.bool b), some d, true))
    (k : SP V P Q ops N rest ⟨(d, gv b want v) :: L, H, S, wf⟩) : SP V P Q ops N (o :: rest) ⟨L, H, S, wf⟩ := by
  simp only [Prod.mk.injEq] at q
  exact .cons (Ev.gstep h q.1 q.2.1 q.2.2.1 q.2.2.2.1 q.2.2.2.2 k)
theorem idQ {α β : Type} {X : α → β → Prop} (a : α) (b : β) (h : X a b) : X a b := h
end
theorem SR.z {V : Env} {P : Program} {Q : Exit → Act → World → Prop} {ops : Array Oper} {N : Nat} {o : Oper} {L : List (Nat × Value)} {H : List Res} {S : Nat → Prop} {wf : World} {B : World → Prop} {cs : List (Nat × (World → Prop))} {fuel : Nat} {listed : Array Bool} {v : Value} {d : Nat} (i : Nat) (hi : ops[i]? = some o) (q : (o.guard, o.dst, Nat.blt d N) = (none, some d, true))
    (h : Ev P (fun w => B w ∧ ∀ c ∈ cs, waitsFor ops c.1 i = true → c.2 w) L o v)
    (k : SR V P Q ops N B cs fuel (listed.setIfInBounds i true) ⟨(d, v) :: L, H, S, wf⟩) (hb : (Region.noSelect ops && (Region.free .any ops listed i && ((Region.ready .any ops listed).contains i && !(cs.map (·.1)).contains i))) = true := by kernel_rfl) (hQ : ∀ c a w, Q (.panic c) (a.put o.dst v) w → Q (.panic c) a w := by exact fun _ _ _ h => h) : SR V P Q ops N B cs (fuel + 1) listed ⟨L, H, S, wf⟩ :=
  .k i hi hb q h k hQ
theorem Sub.c4 {L r : List (Nat × Value)} {k1 k2 k3 k4 : Nat} {v1 v2 v3 v4 : Value} (h1 : lkp L k1 = some v1) (h2 : lkp L k2 = some v2) (h3 : lkp L k3 = some v3) (h4 : lkp L k4 = some v4) (h : Sub L r) : Sub L ((k1, v1) :: (k2, v2) :: (k3, v3) :: (k4, v4) :: r) := .c h1 (.c h2 (.c h3 (.c h4 h)))
section
variable {V : Env} {P : Program} {Q : Exit → Act → World → Prop} {ops : Array Oper} {N : Nat} {o : Oper} {rest : List Oper} {L : List (Nat × Value)} {H : List Res} {S : Nat → Prop} {wf : World} {B : World → Prop} {cs : List (Nat × (World → Prop))} {fuel : Nat} {listed : Array Bool}
theorem SR.y {v : Value} {d g t : Nat} {want b : Bool} (i : Nat) (hi : ops[i]? = some o) (q : (o.guard, (ops[g]?).bind (·.dst), lkp L t, o.dst, Nat.blt d N) = (some (g, want), some t, some (.bool b), some d, true))
    (h : b = want → Ev P (fun w => B w ∧ ∀ c ∈ cs, waitsFor ops c.1 i = true → c.2 w) L o v)
    (k : SR V P Q ops N B cs fuel (listed.setIfInBounds i true) ⟨(d, gv b want v) :: L, H, S, wf⟩) (hb : (Region.noSelect ops && (Region.free .any ops listed i && ((Region.ready .any ops listed).contains i && !(cs.map (·.1)).contains i))) = true := by kernel_rfl) (hQ : ∀ c a w v, Q (.panic c) (a.put o.dst v) w → Q (.panic c) a w := by exact fun _ _ _ _ h => h) : SR V P Q ops N B cs (fuel + 1) listed ⟨L, H, S, wf⟩ := by
  simp only [Prod.mk.injEq] at q
  simp only [Bool.and_eq_true, Bool.not_eq_true'] at hb
  exact .gtake i hi hb.1 hb.2.1 hb.2.2.1 hb.2.2.2 hQ q.1 q.2.1 q.2.2.1 q.2.2.2.1 q.2.2.2.2 h k
theorem SP.m {d : Nat} {v : Value} {x : Operand} (ho : o.op = .move x) (hx : lk L x = some v) (q : (o.guard, o.dst, Nat.blt d N) = (none, some d, true)) (k : SP V P Q ops N rest ⟨(d, v) :: L, H, S, wf⟩) : SP V P Q ops N (o :: rest) ⟨L, H, S, wf⟩ := .v (ev_mv ho hx) q k
theorem SP.a {d : Nat} {v : Value} {x : Operand} (ho : o.op = .assign x) (hx : lk L x = some v) (q : (o.guard, o.dst, Nat.blt d N) = (none, some d, true)) (k : SP V P Q ops N rest ⟨(d, v) :: L, H, S, wf⟩) : SP V P Q ops N (o :: rest) ⟨L, H, S, wf⟩ := .v (ev_as ho hx) q k
theorem SR.m {v : Value} {d : Nat} {x : Operand} (i : Nat) (hi : ops[i]? = some o) (q : (o.guard, o.dst, Nat.blt d N) = (none, some d, true)) (ho : o.op = .move x) (hx : lk L x = some v)
    (k : SR V P Q ops N B cs fuel (listed.setIfInBounds i true) ⟨(d, v) :: L, H, S, wf⟩) (hb : (Region.noSelect ops && (Region.free .any ops listed i && ((Region.ready .any ops listed).contains i && !(cs.map (·.1)).contains i))) = true := by kernel_rfl) (hQ : ∀ c a w, Q (.panic c) (a.put o.dst v) w → Q (.panic c) a w := by exact fun _ _ _ h => h) : SR V P Q ops N B cs (fuel + 1) listed ⟨L, H, S, wf⟩ :=
  .k i hi hb q (ev_mv ho hx) k hQ
end
theorem SR.o {V : Env} {P : Program} {Q : Exit → Act → World → Prop} {ops : Array Oper} {N : Nat} {o : Oper} {st : St} {B : World → Prop} {cs : List (Nat × (World → Prop))} {fuel : Nat} {listed : Array Bool} (j : Nat) (ho : ops[j]? = some o)
    (h : OpStep V P Q ops N o st fun st' => (∀ w, WW V st'.S st'.wf st'.H w → TT B cs (listed.setIfInBounds j true) w) ∧ SR V P Q ops N B cs fuel (listed.setIfInBounds j true) st') (hr : Region.ready .any ops listed = [j] := by kernel_rfl) : SR V P Q ops N B cs (fuel + 1) listed st := .one hr ho h
section
variable {V : Env} {P : Program} {Q : Exit → Act → World → Prop} {ops : Array Oper} {N : Nat} {o : Oper} {rest : List Oper} {L : List (Nat × Value)} {H : List Res} {S : Nat → Prop} {wf : World} {dt : Nat}
theorem SP.f {s : TypeId} {x : Operand} {i b off f : Nat} (hf : fo P s i = some f) (r : Nat) (ho : o.op = .fieldAddr s x i) (hx : lk L x = some (.pointer (some ⟨b, off, none⟩))) (hr : off + f = r) (q : (o.guard, o.dst, Nat.blt dt N) = (none, some dt, true)) (k : SP V P Q ops N rest ⟨(dt, .pointer (some ⟨b, r, none⟩)) :: L, H, S, wf⟩) : SP V P Q ops N (o :: rest) ⟨L, H, S, wf⟩ := .v (ev_fa ho hf hx hr) q k
theorem SP.l {t : TypeId} {x : Operand} {b off : Nat} {v : Value} {c : Array Value} {e : TypeId} {fr : Nat × Nat} (ht : ty P t = some (false, 1)) (i : Nat) (ho : o.op = .load t x) (hx : lk L x = some (.pointer (some ⟨b, off, none⟩))) (hi : H[i]? = some (blk b (.cells c e fr))) (hc : c[off]? = some v) (q : (o.guard, o.dst, Nat.blt dt N) = (none, some dt, true)) (k : SP V P Q ops N rest ⟨(dt, v) :: L, H, S, wf⟩) : SP V P Q ops N (o :: rest) ⟨L, H, S, wf⟩ := .v (ev_ld1 ho ht hx (At.own1 i hi hc)) q k
theorem SP.e {op : BinOp} {t t' : TypeId} {x y : Operand} {k : IntKind} {a b : Int} {r : Bool} (ho : o.op = .binOp op t x y t') (hx : lk L x = some (.int k a)) (hy : lk L y = some (.int k b)) (hr : cmpB op a b = some r) (q : (o.guard, o.dst, Nat.blt dt N) = (none, some dt, true)) (k : SP V P Q ops N rest ⟨(dt, .bool r) :: L, H, S, wf⟩) : SP V P Q ops N (o :: rest) ⟨L, H, S, wf⟩ := .v (ev_cmp ho hx hy hr) q k
theorem SP.x {x : Operand} {n : Nat} {vs : Array Value} {v : Value} (ho : o.op = .extract x n) (hx : lk L x = some (.tuple vs)) (hv : vs[n]? = some v) (q : (o.guard, o.dst, Nat.blt dt N) = (none, some dt, true)) (k : SP V P Q ops N rest ⟨(dt, v) :: L, H, S, wf⟩) : SP V P Q ops N (o :: rest) ⟨L, H, S, wf⟩ := .v (ev_ext ho hx hv) q k
theorem SP.g {x : Operand} {A : Option Addr} {n c : Nat} {t e : TypeId} (hu : P.underlying t = some (.slice e)) (ho : o.op = .call { callee := .builtin .len, args := #[x], argTypes := #[t] }) (hx : lk L x = some (.slice A n c)) (q : (o.guard, o.dst, Nat.blt dt N) = (none, some dt, true)) (k : SP V P Q ops N rest ⟨(dt, .int .i64 (n : Int)) :: L, H, S, wf⟩) : SP V P Q ops N (o :: rest) ⟨L, H, S, wf⟩ := .v (ev_len ho hu hx) q k
theorem SP.d {t : TypeId} {x : Operand} {b e : Nat} {cs : List Value} (i : Nat) (ht : ty P t = some (true, cs.length)) (ho : o.op = .load t x) (hx : lk L x = some (.pointer (some ⟨b, 0, none⟩))) (hi : H[i]? = some (cel b cs e)) (q : (o.guard, o.dst, Nat.blt dt N) = (none, some dt, true)) (k : SP V P Q ops N rest ⟨(dt, .agg cs.toArray) :: L, H, S, wf⟩) : SP V P Q ops N (o :: rest) ⟨L, H, S, wf⟩ := .v (ev_lda ho hx (At.whole i hi) ht) q k
theorem SP.p {t t' : TypeId} {x y : Operand} {a b : Int} (r : Int) (h1 : -9223372036854775808 ≤ r) (h2 : r ≤ 9223372036854775807) (ho : o.op = .binOp .add t x y t') (hx : lk L x = some (.int .i64 a)) (hy : lk L y = some (.int .i64 b)) (hr : a + b = r) (q : (o.guard, o.dst, Nat.blt dt N) = (none, some dt, true)) (k : SP V P Q ops N rest ⟨(dt, .int .i64 r) :: L, H, S, wf⟩) : SP V P Q ops N (o :: rest) ⟨L, H, S, wf⟩ := .v (ev_add ho hx hy hr h1 h2) q k
theorem SP.r {c x y : Operand} {b r : Bool} (ho : o.op = .pick c x y) (hc : lk L c = some (.bool b)) (hx : lk L x = some (.bool true)) (hy : lk L y = some (gv b false (.bool r))) (q : (o.guard, o.dst, Nat.blt dt N) = (none, some dt, true)) (k : SP V P Q ops N rest ⟨(dt, .bool (b || r)) :: L, H, S, wf⟩) : SP V P Q ops N (o :: rest) ⟨L, H, S, wf⟩ := .v (ev_or ho hc hx hy) q k
theorem kp {C R : List Res} (h : PickL H C R) : ∀ w, WW V S wf H w → WW V S wf C w := fun w hw => hw.keep h
theorem ttw {listed : Array Bool} {b e j : Nat} {cs : List Value} (k : Nat) (hk : H[k]? = some (cel b cs e)) : ∀ w, WW V S wf H w → TT (Fz S wf) [(j, fun w => At w b 0 cs)] listed w := fun w hw => ⟨hw.fz, fun c hc _ => by simp only [List.mem_singleton] at hc; subst hc; exact At.whole k hk w hw⟩
end
theorem Pick.t2 {α : Type} {a b r : α} {H R : List α} (h : Pick H r R) : Pick (a :: b :: H) r (a :: b :: R) := .t (.t h)
theorem Pick.t4 {α : Type} {a b c d r : α} {H R : List α} (h : Pick H r R) : Pick (a :: b :: c :: d :: H) r (a :: b :: c :: d :: R) := .t (.t (.t (.t h)))
theorem LSet.t2 {α : Type} {H R : List α} {n : Nat} {a b r : α} (h : LSet H n r R) : LSet (a :: b :: H) (n + 2) r (a :: b :: R) := .t (.t h)
theorem LSet.t4 {α : Type} {H R : List α} {n : Nat} {a b c d r : α} (h : LSet H n r R) : LSet (a :: b :: c :: d :: H) (n + 4) r (a :: b :: c :: d :: R) := .t (.t (.t (.t h)))
theorem PickL.d {α : Type} {a b : α} {H R C : List α} (h : PickL H C R) : PickL (a :: b :: H) (a :: b :: C) R := .c .h (.c .h h)
end Go.SX
namespace Go.SX
open Go Go.RowKit
def cutO (off c l sz : Nat) : Nat := if c = l then off else off + l * sz
def cutA (A : Option Addr) (c l sz : Nat) : Option Addr := if c = l then A else A.map (·.add (l * sz))
theorem cutA_some (b off c l sz : Nat) : cutA (some ⟨b, off, none⟩) c l sz = some ⟨b, cutO off c l sz, none⟩ := by
  unfold cutA cutO
  split
  · rfl
  · simp [add_at]
theorem cutO_lt {off c l sz : Nat} (h : l < c) : cutO off c l sz = off + l * sz := by unfold cutO; rw [if_neg (by omega)]
theorem cutO_zero {off c sz : Nat} : cutO off c 0 sz = off := by unfold cutO; split <;> simp
inductive Bd (L : List (Nat × Value)) : Option Operand → Nat → Nat → Prop where
  | n {d : Nat} : Bd L none d d
  | s {y : Operand} {k : IntKind} {i : Int} {d : Nat} : lk L y = some (.int k i) → 0 ≤ i → Bd L (some y) d i.toNat
section
variable {V : Env} {P : Program} {Q : Exit → Act → World → Prop} {ops : Array Oper} {N : Nat} {o : Oper} {rest : List Oper} {L : List (Nat × Value)} {H R : List Res} {S : Nat → Prop} {wf : World} {K : St → Prop} {st : St} {C : World → Prop}
theorem Bd.known {x : Option Operand} {d r : Nat} (h : Bd L x d r) : ∀ y ∈ x, known L y = true := by
  cases h with
  | n => intro y hy; cases hy
  | s h _ => intro y hy; cases hy; exact known_of h
theorem Bd.bound {x : Option Operand} {d r : Nat} (h : Bd L x d r) (y : Nat) (hr : r ≤ y) (code : BoundsCode) (w : World) (z : Operand) (hz : x = some z) :
    (Instr.sliceBound (ev L z) y code).run P w = .ok r w := by
  subst hz
  cases h with
  | s h h0 => 
    rename_i k i
    have h2 : i ≤ (y : Int) := by omega
    simp [Instr.sliceBound, ev_of h, asIntOf, h0, h2]
theorem ev_slc {t e : TypeId} {x : Operand} {lo hi : Option Operand} {A : Option Addr} {n c l h sz : Nat} {ag : Bool} (ho : o.op = .slice t x lo hi none) (hu : P.underlying t = some (.slice e)) (hs : ty P e = some (ag, sz))
    (hx : lk L x = some (.slice A n c)) (hlo : Bd L lo 0 l) (hhi : Bd L hi n h) (h1 : l ≤ h) (h2 : h ≤ c) : Ev P C L o (.slice (cutA A c l sz) (h - l) (c - l)) := by
  refine ⟨by simp [ho, noSel], ?_, fun w _ => ?_⟩
  · rw [ho]
    refine Array.all_eq_true_iff_forall_mem.2 fun y hy => ?_
    simp only [Op.operands, Array.mem_append, Option.mem_toArray] at hy
    rcases hy with ((hy | hy) | hy) | hy
    · simp at hy; subst hy; exact known_of hx
    · exact hlo.known y hy
    · exact hhi.known y hy
    · cases hy
  · obtain ⟨d, inf, _, hi', _, rfl⟩ := ty_spec hs
    have hb : (Instr.sliceBounds true n c (lo.map (ev L)) (hi.map (ev L)) none).run P w = .ok (l, h, c) w := by
      unfold Instr.sliceBounds
      cases hi with
      | none =>
        cases hhi
        cases lo with
        | none => cases hlo; simp
        | some y =>
          have e1 := hlo.bound (P := P) n h1 .sliceB w y rfl
          simp [e1]
      | some z =>
        have e2 := hhi.bound (P := P) c h2 .sliceAcap w z rfl
        cases lo with
        | none => cases hlo; simp [e2]
        | some y =>
          have e1 := hlo.bound (P := P) h h1 .sliceB w y rfl
          simp [e1, e2]
    simp [execOp, ho, ev_of hx, Instr.sliceAt, run_underlying hu, Instr.slice, hb, sizeOf, typeInfo, hi', cutA]
theorem run_loadCells_at {w : World} {b off : Nat} {cs : List Value} {k : Nat} (h : At w b off cs) (hk : cs.length = k) : (loadCells ⟨b, off, none⟩ k).run P w = .ok cs.toArray w := by
  subst hk
  exact run_loadCells_list (P := P) w ⟨b, off, none⟩ cs (fun j v hv => by rw [add_at]; exact h j v hv)
theorem st_copy {t t' e e' : TypeId} {x y : Operand} {g off nd cd : Nat} {bs os ns c' sz k : Nat} {ag : Bool} {l cells l' : List Value} {d : Nat} (ho : o.op = .call { callee := .builtin .copy, args := #[x, y], argTypes := #[t, t'] }) (hg : o.guard = none) (hd : o.dst = some d) (hdN : Nat.blt d N = true)
    (hu : P.underlying t = some (.slice e)) (hs : ty P e = some (ag, sz)) (hx : lk L x = some (.slice (some ⟨g, off, none⟩) nd cd)) (hy : lk L y = some (.slice (some ⟨bs, os, none⟩) ns c'))
    (hk : Nat.min ns nd = k) (hc : cells.length = k * sz) (h1 : cells.all (·.oneCell') = true) (hm : ∀ w, WW V S wf H w → At w bs os cells) (hp : Pick H (cel g l e') R) (hle : off + cells.length ≤ l.length)
    (hl : l.take off ++ cells ++ l.drop (off + cells.length) = l') (k : K ⟨(d, .int .i64 (k : Int)) :: L, cel g l' e' :: R, S, wf⟩) : OpStep V P Q ops N o ⟨L, H, S, wf⟩ K :=
  .act hg hd hdN (by simp [ho, noSel]) (by simp [ho, Op.operands, Call.operands, known_of hx, known_of hy]) fun w hw => by
    obtain ⟨_, inf, _, hi', _, rfl⟩ := ty_spec hs
    subst hl
    have hw' := hw.perm hp.perm
    have hb : w.heap[g]? = some (.cells l.toArray e' (0, 0)) := hw'.has _ (List.mem_cons_self ..)
    have hst := run_storeCells_at P g off e' cells 0 l.toArray w hb (by simpa using hle) (List.all_eq_true.1 h1)
    simp only [Nat.add_zero] at hst
    have hld := run_loadCells_at (P := P) (hm w hw) hc
    refine ⟨_, _, _, by simp [execOp, ho, ev_of hx, ev_of hy, resolve, invoke, builtin, Builtin.copy_, run_underlying hu, Builtin.lenOf, hk, sizeOf, typeInfo, hi', Builtin.firstCells, hld, hst, goInt]; rfl, ?_, k⟩
    refine WW.change (C := [cel g l e']) (R := R) (C' := [cel g _ e']) hw' (fun b' _ hn => setRow_other w g b' _ (by simpa [blk] using hn)) (by simp) ?_ (by simp [blk]) (fun b' hb' => .inl (by simpa [blk] using hb')) rfl rfl rfl
    intro r hr
    simp only [List.mem_singleton] at hr
    subst hr
    refine (setRow_heap w g _ _ e' _ hb).trans ?_
    simp
end
end Go.SX
namespace Go.SX
open Go Go.RowKit
def ab (A : Option Addr) : Nat := match A with | some a => a.block | none => 0
def ao (A : Option Addr) : Nat := match A with | some a => a.off | none => 0
theorem Fr.adr {α : Type} {E : Enc α} {S : Nat → Prop} {wf : World} {A : Option Addr} {l : List α} (h : Fr E S wf A l) {i : Int} (h0 : 0 ≤ i) (h1 : i < (l.length : Int)) : A = some ⟨ab A, ao A, none⟩ := by
  obtain ⟨b, off, rfl⟩ := h.form (by omega)
  rfl
section
variable {V : Env} {P : Program} {Q : Exit → Act → World → Prop} {ops : Array Oper} {N : Nat} {o : Oper} {rest : List Oper} {L : List (Nat × Value)} {H R : List Res} {S : Nat → Prop} {wf : World} {K : St → Prop} {st : St} {C : World → Prop}
theorem row_adr {α : Type} {E : Enc α} {e n c : Nat} {A : Option Addr} {l : List α} (k : Nat) (hk : H[k]? = some (rw_ E e (.slice A n c) l)) {i : Int} (h0 : 0 ≤ i) (h1 : i < (l.length : Int)) : ∀ w, WW V S wf H w → A = some ⟨ab A, ao A, none⟩ := fun w hw => by
  rcases rw_holds.1 (hw.has _ (List.mem_of_getElem? hk)) with ⟨_, rfl⟩ | ⟨g, cap, cur, h1', _⟩
  · simp at h1; omega
  · injection h1' with h1' _ _
    subst h1'
    rfl
theorem ev_ix {t e : TypeId} {x y : Operand} {A : Option Addr} {n c sz : Nat} {k : IntKind} {i : Int} {ag : Bool} (ho : o.op = .indexAddr t x y) (hu : P.underlying t = some (.slice e)) (hs : ty P e = some (ag, sz))
    (hx : lk L x = some (.slice A n c)) (hy : lk L y = some (.int k i)) (h0 : 0 ≤ i) (h1 : i < (n : Int)) (hA : ∀ w, C w → A = some ⟨ab A, ao A, none⟩) : Ev P C L o (.pointer (some ⟨ab A, ao A + i.toNat * sz, none⟩)) :=
  ⟨by simp [ho, noSel], by simp [ho, Op.operands, known_of hx, known_of hy], fun w hw => by
    obtain ⟨d, inf, _, hi, _, rfl⟩ := ty_spec hs
    have := hA w hw
    revert hx
    rw [this]
    intro hx
    simp [execOp, ho, ev_of hx, ev_of hy, Instr.indexAt, asIntOf, run_underlying hu, sizeOf, typeInfo, hi, h0, h1, add_at, ab, ao]⟩
theorem Fr.el {α : Type} [Inhabited α] {E : Enc α} {A : Option Addr} {l : List α} (h : Fr E S wf A l) {i : Int} (h0 : 0 ≤ i) (h1 : i < (l.length : Int)) : ∀ w, Fz S wf w → At w (ab A) (ao A + i.toNat * E.sz) (E.enc (gt l i)) := fun w hw => by
  rcases h.2 with rfl | ⟨b', off', rfl, hS, h3⟩
  · simp at h1; omega
  · exact (h3 _ _ (gt_at h0 h1)).fz hS hw
theorem At.w {b off : Nat} {cs : List Value} (h : ∀ w, Fz S wf w → At w b off cs) : ∀ w, WW V S wf H w → At w b off cs := fun w hw => h w hw.fz
theorem At.d {b off : Nat} {cs : List Value} {X : World → Prop} (h : ∀ w, Fz S wf w → At w b off cs) : ∀ w, (Fz S wf w ∧ X w) → At w b off cs := fun w hw => h w hw.1
theorem row_el {α : Type} [Inhabited α] {E : Enc α} {e n c : Nat} {A : Option Addr} {l : List α} (k : Nat) (hk : H[k]? = some (rw_ E e (.slice A n c) l)) {i : Int} (h0 : 0 ≤ i) (h1 : i < (l.length : Int)) : ∀ w, WW V S wf H w → At w (ab A) (ao A + i.toNat * E.sz) (E.enc (gt l i)) := fun w hw => by
  have hh := hw.has _ (List.mem_of_getElem? hk)
  rcases rw_holds.1 hh with ⟨_, rfl⟩ | ⟨g, cap, cur, h1', _⟩
  · simp at h1; omega
  · injection h1' with h1' _ _
    subst h1'
    exact At.row (A := .bool true) hh (gt_at h0 h1)
def Src (w : World) (A : Option Addr) (cs : List Value) : Prop := cs = [] ∨ ∃ b off, A = some ⟨b, off, none⟩ ∧ At w b off cs
theorem Fr.flat {α : Type} {E : Enc α} {A : Option Addr} {l : List α} (h : Fr E S wf A l) : ∀ w, Fz S wf w → Src w A (flat E l) := fun w hw => by
  rcases h.2 with rfl | ⟨b, off, rfl, hS, h3⟩
  · exact .inl rfl
  · refine .inr ⟨b, off, rfl, fun j u hu => ?_⟩
    have hlt : j < l.length * E.sz := by rw [← flat_length]; exact (List.getElem?_eq_some_iff.1 hu).1
    have hp := E.pos
    have hi : j / E.sz < l.length := Nat.div_lt_of_lt_mul (by rw [Nat.mul_comm]; exact hlt)
    have hx : l[j / E.sz]? = some l[j / E.sz] := List.getElem?_eq_getElem hi
    have hr : j % E.sz < E.sz := Nat.mod_lt _ hp
    have hj : j / E.sz * E.sz + j % E.sz = j := by rw [Nat.mul_comm]; exact Nat.div_add_mod j E.sz
    have hu2 : (E.enc l[j / E.sz])[j % E.sz]? = some ((E.enc l[j / E.sz])[j % E.sz]'(by rw [E.len]; exact hr)) := List.getElem?_eq_getElem _
    have h4 := flat_get E l _ _ hx _ _ hu2
    rw [hj, hu] at h4
    have h5 := ((h3 _ _ hx).fz hS hw) (j % E.sz) _ hu2
    rw [Nat.add_assoc, hj] at h5
    rw [h5, ← h4]
theorem Src.w {A : Option Addr} {cs : List Value} (h : ∀ w, Fz S wf w → Src w A cs) : ∀ w, WW V S wf H w → Src w A cs := fun w hw => h w hw.fz
theorem row_src {α : Type} {E : Enc α} {e n c : Nat} {A : Option Addr} {l : List α} (k : Nat) (hk : H[k]? = some (rw_ E e (.slice A n c) l)) : ∀ w, WW V S wf H w → Src w A (flat E l) := fun w hw => by
  have hh := hw.has _ (List.mem_of_getElem? hk)
  rcases rw_holds.1 hh with ⟨_, rfl⟩ | ⟨g, cap, cur, h1', h2, h3, h4, h5, h6⟩
  · exact .inl rfl
  · injection h1' with h1' _ _
    subst h1'
    refine .inr ⟨g, 0, rfl, fun j u hu => ?_⟩
    rw [← h6] at hu
    rw [List.getElem?_take] at hu
    split at hu
    · simp [World.cell?, h2]
      simpa using hu
    · cases hu
theorem st_app {α : Type} {E : Enc α} {t e : TypeId} {x y : Operand} {v : Value} {l m : List α} {d : Nat} {z : Value} {bytes : Nat} {A : Option Addr} {n c : Nat} (ho : o.op = .call { callee := .builtin .append, args := #[x, y], argTypes := #[t, t] }) (hg : o.guard = none) (hd : o.dst = some d) (hdN : Nat.blt d N = true)
    (ht : P.underlying t = some (.slice e)) (hi : (P.info? e).map (fun i => (i.zero, i.size, i.bytes)) = some (some z, E.sz, bytes)) (hz : z.cells.size = E.sz)
    (hx : lk L x = some v) (hy : lk L y = some (.slice A n c)) (hp : Pick H (rw_ E e v l) R) (hn : m.length = n)
    (hm : ∀ w, WW V S wf H w → Src w A (flat E m)) (hb : (l.length + n) * bytes ≤ 140737488355328) (hb0 : Nat.ble 1 bytes = true)
    (k : ∀ v', K ⟨(d, v') :: L, rw_ E e v' (l ++ m) :: R, S, wf⟩) : OpStep V P Q ops N o ⟨L, H, S, wf⟩ K := by
  have h63 : l.length + n ≤ maxLen := by
    have h1 : 1 ≤ bytes := Nat.le_of_ble_eq_true hb0
    have h2 : (l.length + n) * 1 ≤ (l.length + n) * bytes := Nat.mul_le_mul_left _ h1
    simp only [maxLen]
    omega
  refine .act hg hd hdN (by simp [ho, noSel]) (by simp [ho, Op.operands, Call.operands, known_of hx, known_of hy]) fun w hw => ?_
  rcases hm w hw with hnil | ⟨b, off, rfl, hat⟩
  · -- nothing is appended
    have hm0 : m = [] := by
      cases m with
      | nil => rfl
      | cons a m =>
        have := E.pos
        have h2 := E.len a
        rw [flat_cons] at hnil
        have := congrArg List.length hnil
        simp at this
        rw [this.1] at h2
        simp at h2
        omega
    subst hm0
    simp at hn
    subst hn
    obtain ⟨i, hi, hq⟩ := Option.map_eq_some_iff.1 hi
    simp only [Prod.mk.injEq] at hq
    have hw' := hw.perm hp.perm
    have hk' := k v
    rw [List.append_nil] at hk'
    refine ⟨v, w, _, ?_, hw', hk'⟩
    have hh := rw_holds.1 (hw'.has _ (List.mem_cons_self ..))
    have hf : ∀ (s : Nat), (Builtin.firstCells s 0 (.slice A 0 c)).run P w = .ok #[] w := by
      intro s
      cases A <;> simp [Builtin.firstCells, loadCells, loadCellsFrom]
    rcases hh with ⟨rfl, _⟩ | ⟨g, cap, cur, rfl, h2, h3, _⟩
    · simp [execOp, ho, ev_of hx, ev_of hy, resolve, invoke, builtin, Builtin.append_, run_underlying ht, Builtin.lenOf, sizeOf, typeInfo, hi, hf]
    · simp [execOp, ho, ev_of hx, ev_of hy, resolve, invoke, builtin, Builtin.append_, run_underlying ht, Builtin.lenOf, sizeOf, typeInfo, hi, hf, h3, storeCells]
  · obtain ⟨i, hi, hq⟩ := Option.map_eq_some_iff.1 hi
    simp only [Prod.mk.injEq] at hq
    have hw' := hw.perm hp.perm
    have hown : w.ownsRow 0 e E.sz v l.length (flat E l) := hw'.has _ (List.mem_cons_self ..)
    obtain ⟨v', w', hr, h1, h2, _, h4⟩ := run_append_own_at (P := P) w 0 t o.type e i z E.sz bytes ht hi hq.1 hq.2.1 hq.2.2 hz E.pos v l.length (flat E l) hown ⟨b, off, none⟩ n c (flat E m) (by rw [flat_length, hn])
      (fun j u hu => by rw [add_at]; exact hat j u hu) (flat_one E m) h63 hb (Nat.zero_le _)
    refine ⟨v', w', _, by simp only [execOp, ho, resolve, invoke, builtin, Sem.run_bind, Sem.run_pure, Result.andThen_ok, List.map_toArray, List.map_cons, List.map_nil, ev_of hx, ev_of hy, hr], ?_, k v'⟩
    refine WW.change (C := [rw_ E e v l]) (R := R) (C' := [rw_ E e v' (l ++ m)]) hw' (fun b' hb' hn' => h2.block b' hb' (fun e => hn' ?_)) h2.size ?_ ?_ ?_ h2.os h2.tape h2.output
    · simp [rw_, row, ← e]
    · intro r hr
      simp only [List.mem_singleton] at hr
      subst hr
      show w'.ownsRow 0 e E.sz v' (l ++ m).length (flat E (l ++ m))
      rw [List.length_append, hn, flat_append]
      exact h1
    · simp [rw_, row]
      cases v'.ownBlock <;> simp
    · intro b' hb'
      simp [rw_, row] at hb' ⊢
      rcases h4 with h4 | h4
      · exact .inl (by rw [← h4]; exact hb')
      · rw [h4] at hb'
        simp at hb'
        omega
theorem run_equalIn_nil (d : Nat) {t e : TypeId} (hu : P.underlying t = some (.slice e)) (A : Option Addr) (n c : Nat) (w : World) : (Op.equalIn (d + 1) t (.slice A n c) (.slice none 0 0)).run P w = .ok A.isNone w := by
  cases A <;> simp [Op.equalIn, run_underlying hu]
def nilB : BinOp → Option Addr → Option Bool
  | .eql, A => some A.isNone
  | .neq, A => some (!A.isNone)
  | _, _ => none
theorem ev_nils {t t' e : TypeId} {x : Operand} {A : Option Addr} {n c : Nat} {op : BinOp} {y : Operand} {r : Bool} (ho : o.op = .binOp op t x y t') (hu : P.underlying t = some (.slice e)) (hx : lk L x = some (.slice A n c)) (hy : lk L y = some (.slice none 0 0))
    (hr : nilB op A = some r) : Ev P C L o (.bool r) :=
  ev_bin ho hx hy (fun w => by
    have h : (Op.equal t (.slice A n c) (.slice none 0 0)).run P w = .ok A.isNone w := run_equalIn_nil 9999 hu A n c w
    cases op <;> simp only [nilB, Option.some.injEq, reduceCtorEq] at hr
    · subst hr; simp [eqGuard, binOp, h]
    · subst hr; simp [eqGuard, binOp, h])
theorem WW.nilrow {α : Type} (E : Enc α) (e : Nat) {w : World} (h : WW V S wf H w) : WW V S wf (rw_ E e (.slice none 0 0) [] :: H) w where
  has r hr := by
    rcases List.mem_cons.1 hr with rfl | hr
    · exact rw_holds.2 (.inl ⟨rfl, rfl⟩)
    · exact h.has r hr
  nd := by simpa [rw_, row, Value.ownBlock] using h.nd
  sep b hb := h.sep b (by simpa [rw_, row, Value.ownBlock] using hb)
  fz := h.fz
  new := h.new
  fr := h.fr
  sz := h.sz
  os := h.os
  tape := h.tape
  output := h.output
theorem SC.nilrow {α : Type} (E : Enc α) (e : Nat) {c : Code} (h : SC V P Q N c ⟨L, rw_ E e (.slice none 0 0) [] :: H, S, wf⟩) : SC V P Q N c ⟨L, H, S, wf⟩ := fun a w hs hw => h a w hs (hw.nilrow E e)
theorem run_setel {α : Type} [Inhabited α] {E : Enc α} {t e n c : Nat} {A : Option Addr} {l : List α} {i : Int} {x : α} {cs : List Value} {off : Nat} {ag : Bool} {w : World} {u : Value} (hcu : u.cells = cs.toArray) (ht : ty P t = some (ag, cs.length)) (hcs : cs.all (·.oneCell') = true)
    (hh : (rw_ E e (.slice A n c) l).holds w) (h0 : 0 ≤ i) (h1 : i < (l.length : Int)) (hle : off + cs.length ≤ E.sz) (hx : (E.enc (gt l i)).take off ++ cs ++ (E.enc (gt l i)).drop (off + cs.length) = E.enc x) :
    ∃ w', (storeVar t ⟨ab A, ao A + i.toNat * E.sz + off, none⟩ u).run P w = .ok () w' ∧ (rw_ E e (.slice A n c) (l.set i.toNat x)).holds w' ∧ (∀ b, b ≠ ab A → w'.heap[b]? = w.heap[b]?) ∧ w'.heap.size = w.heap.size ∧ w'.os = w.os ∧ w'.tape = w.tape ∧ w'.output = w.output ∧ A = some ⟨ab A, 0, none⟩ := by
  rcases rw_holds.1 hh with ⟨_, rfl⟩ | ⟨g, cap, cur, h1', h2, h3, h4, h5, h6⟩
  · simp at h1; omega
  · injection h1' with hA hn hc
    subst hA hn hc
    have hi : i.toNat < l.length := by omega
    have hpos : i.toNat * E.sz + E.sz ≤ l.length * E.sz := by rw [← Nat.succ_mul]; exact Nat.mul_le_mul_right _ hi
    have hcap : l.length * E.sz ≤ cur.size := by rw [h5]; exact Nat.mul_le_mul_right _ h3
    have hb : w.heap[g]? = some (.cells cur.toList.toArray e (0, 0)) := by simpa using h2
    obtain ⟨w', hr, k1, k2, k3, k4, k5, k6⟩ := run_storea (P := P) (off := i.toNat * E.sz + off) hcu ht hcs hb (by simp; omega)
    refine ⟨w', by simpa [ab, ao] using hr, ?_, fun b hb' => k2 b (by simpa [ab] using hb'), k3, k4, k5, k6, rfl⟩
    refine rw_holds.2 (.inr ⟨g, c, _, by rw [List.length_set], k1, by rw [List.length_set]; exact h3, h4, ?_, ?_⟩)
    · simp; omega
    · rw [List.length_set, List.toList_toArray]
      have e1 : (cur.toList.take (i.toNat * E.sz + off) ++ cs ++ cur.toList.drop (i.toNat * E.sz + off + cs.length)).take (l.length * E.sz) = (flat E l).take (i.toNat * E.sz + off) ++ cs ++ (flat E l).drop (i.toNat * E.sz + off + cs.length) := by
        rw [← h6, List.take_take, List.drop_take, List.take_append, List.take_append]
        simp only [List.length_append, List.length_take, Array.length_toList]
        congr 1
        · congr 1
          · rw [List.take_take]; congr 1; omega
          · exact List.take_of_length_le (by omega)
        · congr 1
          omega
      rw [e1]
      have e2 : flat E l = flat E (l.take i.toNat) ++ E.enc (gt l i) ++ flat E (l.drop (i.toNat + 1)) := by
        conv => lhs; rw [← List.take_append_drop i.toNat l, List.drop_eq_getElem_cons hi]
        rw [flat_append, flat_cons, List.append_assoc]
        congr 2
        simp [gt, List.getD_eq_getElem?_getD, hi]
      have hl1 : (flat E (l.take i.toNat)).length = i.toNat * E.sz := by rw [flat_length, List.length_take]; congr 1; omega
      have hl2 : (E.enc (gt l i)).length = E.sz := E.len _
      have e3 : flat E (l.set i.toNat x) = flat E (l.take i.toNat) ++ E.enc x ++ flat E (l.drop (i.toNat + 1)) := by
        rw [List.set_eq_take_append_cons_drop, if_pos hi, flat_append, flat_cons, List.append_assoc]
      rw [e3, ← hx, e2]
      simp only [List.append_assoc]
      rw [List.take_append, List.take_of_length_le (by omega), hl1, show i.toNat * E.sz + off - i.toNat * E.sz = off from by omega, List.take_append, List.drop_append, hl1,
        show i.toNat * E.sz + off + cs.length - i.toNat * E.sz = off + cs.length from by omega, List.drop_append, List.drop_eq_nil_of_le (as := flat E (l.take i.toNat)) (by omega), hl2]
      rw [show off - E.sz = 0 from by omega, show off + cs.length - E.sz = 0 from by omega]
      simp
theorem st_setel {α : Type} [Inhabited α] {E : Enc α} {t e n c p : Nat} {A : Option Addr} {l : List α} {i : Int} {cs : List Value} {off : Nat} {ag : Bool} {x y : Operand} {u : Value} (z : α) (ho : o.op = .store t x y) (hg : o.guard = none) (hd : o.dst = none) (ht : ty P t = some (ag, cs.length))
    (hx : lk L x = some (.pointer (some ⟨ab A, p, none⟩))) (hpo : p = ao A + i.toNat * E.sz + off) (hy : lk L y = some u) (hcu : u.cells = cs.toArray) (hcs : cs.all (·.oneCell') = true) (hp : Pick H (rw_ E e (.slice A n c) l) R)
    (h0 : 0 ≤ i) (h1 : i < (l.length : Int)) (hle : off + cs.length ≤ E.sz) (hz : (E.enc (gt l i)).take off ++ cs ++ (E.enc (gt l i)).drop (off + cs.length) = E.enc z)
    (k : K ⟨L, rw_ E e (.slice A n c) (l.set i.toNat z) :: R, S, wf⟩) : OpStep V P Q ops N o ⟨L, H, S, wf⟩ K :=
  .eff hg hd (by simp [ho, noSel]) (by simp [ho, Op.operands, known_of hx, known_of hy]) fun w hw => by
    subst hpo
    have hw' := hw.perm hp.perm
    have hh := hw'.has _ (List.mem_cons_self ..)
    obtain ⟨w', hr, k1, k2, k3, k4, k5, k6, hA⟩ := run_setel (P := P) hcu ht hcs hh h0 h1 hle hz
    refine ⟨w', _, by simp [execOp, ho, ev_of hx, ev_of hy, Instr.storeAt, Instr.sureAddr, hr], ?_, k⟩
    have hf : ∀ m : List α, (rw_ E e (.slice A n c) m).foot = [ab A] := by intro m; rw [hA]; rfl
    refine WW.change (C := [rw_ E e (.slice A n c) l]) (R := R) (C' := [rw_ E e (.slice A n c) (l.set i.toNat z)]) hw' (fun b hb hn => k2 b (fun e => hn (by simp [hf, e]))) (by omega) ?_ (by simp [hf]) (fun b hb => .inl (by simpa [hf] using hb)) k4 k5 k6
    intro r hr
    simp only [List.mem_singleton] at hr
    subst hr
    exact k1
theorem feet_of {R : List Res} {r : Res} {b : Nat} (i : Nat) (h : R[i]? = some r) (hb : b ∈ r.foot) : b ∈ feet R := mem_feet.2 ⟨r, List.mem_of_getElem? h, hb⟩
theorem At.lent {wf1 : World} {b off e : Nat} {l cs : List Value} (hR : ∀ r ∈ R, r.holds wf1) (i : Nat) (hi : R[i]? = some (cel b l e)) (hc : (l.drop off).take cs.length = cs) : ∀ w, Fz (fun b => S b ∨ b ∈ feet R) wf1 w → At w b off cs := fun w hw =>
  (At.of_blk (w := wf1) (hR _ (List.mem_of_getElem? hi)) (fun j u hu => by
    rw [← hc] at hu
    rw [List.getElem?_take] at hu
    split at hu
    · rw [List.getElem?_drop] at hu
      simpa using hu
    · cases hu)).fz (S := fun b => S b ∨ b ∈ feet R) (.inr (feet_of i hi (by simp [blk]))) hw
theorem Fr.of_row {α : Type} {E : Enc α} {e n c : Nat} {A : Option Addr} {l : List α} {w : World} (h : (rw_ E e (.slice A n c) l).holds w) (hS : ∀ b ∈ (rw_ E e (.slice A n c) l).foot, S b) (hl : l.length ≤ 140737488355328) : Fr E S w A l := by
  refine ⟨hl, ?_⟩
  rcases rw_holds.1 h with ⟨_, rfl⟩ | ⟨g, cap, cur, h1', h2, h3, h4, h5, h6⟩
  · exact .inl rfl
  · injection h1' with h1' _ _
    subst h1'
    refine .inr ⟨g, 0, rfl, hS g (by simp [rw_, row, Value.ownBlock]), fun i x hx => ?_⟩
    exact At.row (A := .bool true) h hx
theorem Fr.lent {α : Type} {E : Enc α} {e n c : Nat} {A : Option Addr} {l : List α} {wf1 : World} (hR : ∀ r ∈ R, r.holds wf1) (i : Nat) (hi : R[i]? = some (rw_ E e (.slice A n c) l)) (hl : l.length ≤ 140737488355328) : Fr E (fun b => S b ∨ b ∈ feet R) wf1 A l :=
  .of_row (hR _ (List.mem_of_getElem? hi)) (fun b hb => .inr (feet_of i hi hb)) hl
theorem Fr.view {α : Type} {E : Enc α} {A : Option Addr} {l : List α} {c : Nat} (h : Fr E S wf A l) (i j sz : Nat) (hsz : E.sz = sz) (hj : j ≤ c) : Fr E S wf (cutA A c i sz) ((l.take j).drop i) := by
  subst hsz
  refine ⟨by have := h.1; simp; omega, ?_⟩
  by_cases hlt : i < j ∧ i < l.length
  · rcases h.2 with rfl | ⟨b, off, rfl, hS, h3⟩
    · simp
    · refine .inr ⟨b, off + i * E.sz, by rw [cutA_some, cutO_lt (by omega)], hS, fun k x hx => ?_⟩
      rw [List.getElem?_drop] at hx
      rw [List.getElem?_take] at hx
      split at hx
      · have := h3 _ _ hx
        rw [show off + i * E.sz + k * E.sz = off + (i + k) * E.sz from by rw [Nat.add_mul]; omega]
        exact this
      · cases hx
  · refine .inl ?_
    apply List.drop_eq_nil_of_le
    simp
    omega
inductive App {α : Type} : List α → List α → List α → Prop where
  | n {R : List α} : App [] R R
  | c {r : α} {C R H : List α} : App C R H → App (r :: C) R (r :: H)
theorem App.eq {α : Type} {C R H : List α} (h : App C R H) : C ++ R = H := by
  induction h with
  | n => rfl
  | c _ ih => simp [ih]
theorem SQ.go {y : Code} {Q1 : Exit → Act → World → Prop} {Q2 : Act → World → Prop} (hQ : ∀ a w, y.wp P Q1 a w → Q2 a w) (h : SC V P Q1 N y st) : SQ V Q2 N st := fun a w hs hw => hQ a w (h a w hs hw)
theorem SR.fin {wf1 : World} {C' H' : List Res} {listed : Array Bool} {fuel : Nat} {B : World → Prop} {cs : List (Nat × (World → Prop))} (hr : Region.ready .any ops listed = []) (hl : Lent V S R) (hx : Ext S wf (fun b => S b ∨ b ∈ feet R) wf1) (hR : ∀ r ∈ R, r.holds wf1) (ha : App C' R H')
    (h : SQ V (Q .normal) N ⟨L, H', S, wf⟩) : SR V P Q ops N B cs fuel listed ⟨L, C', fun b => S b ∨ b ∈ feet R, wf1⟩ := SR.done hr hl hx hR (by rw [ha.eq]; exact h)
theorem SR.know {listed : Array Bool} {fuel : Nat} {B : World → Prop} {cs : List (Nat × (World → Prop))} {φ : Prop} (h : ∀ w, WW V st.S st.wf st.H w → φ) (k : φ → SR V P Q ops N B cs fuel listed st) : SR V P Q ops N B cs fuel listed st := fun a w hs hw hT hc => k (h w hw) a w hs hw hT hc
theorem Fr.lend {α : Type} {E : Enc α} {e n c : Nat} {A : Option Addr} {l : List α} {C0 R1 : List Res} {w : World} (hw : WW V S wf (C0 ++ (R1 ++ R)) w) (i : Nat) (hi : R1[i]? = some (rw_ E e (.slice A n c) l)) (hl : l.length ≤ 140737488355328) : Fr E (fun b => S b ∨ b ∈ feet R1) w A l :=
  .of_row (hw.has _ (List.mem_append_right _ (List.mem_append_left _ (List.mem_of_getElem? hi)))) (fun b hb => .inr (feet_of i hi hb)) hl
theorem st_lendk {d : Nat} {f : FuncId} {x : Array Operand} {ts : Array TypeId} {args : List Value} {r : Value} {C0 R0 R1 : List Res} (ho : o.op = .call { callee := .value (.func f), args := x, argTypes := ts }) (hg : o.guard = none) (hd : o.dst = some d) (hdN : Nat.blt d N = true)
    (hf : hasBody P f = true) (ha : lkAll L x.toList = some args) (hp : PickL H C0 R0) (hp1 : PickL R0 R1 R) (hT : ∀ w, WW V S wf (C0 ++ (R1 ++ R)) w → TR0 P f args C0 (fun b => S b ∨ b ∈ feet R1) w (fun v C' => v = r ∧ C' = C0))
    (k : K ⟨(d, r) :: L, H, S, wf⟩) : OpStep V P Q ops N o ⟨L, H, S, wf⟩ K :=
  have hc := run_call ho hf ha
  have hpp := hp.perm.trans (List.Perm.append_left C0 hp1.perm)
  .enter hg hd hdN hc.1 hc.2.1 hc.2.2 fun w hw =>
    have hw' := hw.perm hpp
    (hT w hw' w hw'.lend).mono fun e w' ⟨v, C', S', wf', h1, ⟨⟨h2, h5⟩, h6, h7⟩, h3, h4⟩ => by
      subst h2 h5
      exact ⟨v, _, S, wf, h1, (hw'.call h4).perm hpp.symm, k⟩
theorem st_glendk {d g t : Nat} {want b : Bool} {f : FuncId} {x : Array Operand} {ts : Array TypeId} {args : List Value} {r : Value} {C0 R0 R1 : List Res} (ho : o.op = .call { callee := .value (.func f), args := x, argTypes := ts }) (hg : o.guard = some (g, want)) (ht : (ops[g]?).bind (·.dst) = some t) (hL : lkp L t = some (.bool b)) (hd : o.dst = some d) (hdN : Nat.blt d N = true)
    (hf : hasBody P f = true) (ha : b = want → lkAll L x.toList = some args) (hp : PickL H C0 R0) (hp1 : PickL R0 R1 R) (hT : b = want → ∀ w, WW V S wf (C0 ++ (R1 ++ R)) w → TR0 P f args C0 (fun b => S b ∨ b ∈ feet R1) w (fun v C' => v = r ∧ C' = C0))
    (k : K ⟨(d, gv b want r) :: L, H, S, wf⟩) : OpStep V P Q ops N o ⟨L, H, S, wf⟩ K := by
  refine .split (st := ⟨L, H, S, wf⟩) hg ht hL (fun hb => st_lendk ho rfl hd hdN hf (ha hb) hp hp1 (hT hb) ?_) hd hdN (fun hb => ?_)
  · rw [show gv b want r = r from if_pos hb] at k
    exact k
  · rw [show gv b want r = undef from if_neg hb] at k
    exact k
end
end Go.SX
namespace Go.SX
theorem take_gt {α : Type} [Inhabited α] {l : List α} {i : Int} (h0 : 0 ≤ i) (h1 : i < (l.length : Int)) : l.take (i + 1).toNat = l.take i.toNat ++ [gt l i] := by
  have hi : i.toNat < l.length := by omega
  rw [show (i + 1).toNat = i.toNat + 1 from by omega, List.take_succ_eq_append_getElem hi]
  simp [gt, List.getD_eq_getElem?_getD, hi]
end Go.SX
namespace Go.SX
theorem clone_nil {α : Type} {E : Enc α} {S : Nat → Prop} {wf : World} {A : Option Addr} {l : List α} (h : Fr E S wf A l) (hA : A.isNone = true) : l = [] := by
  rcases h.2 with h | ⟨b, off, rfl, _⟩
  · exact h
  · cases hA
end Go.SX
namespace Go.SX
open Go Go.RowKit Go.Lib
section
variable {V : Env} {P : Program} {Q : Exit → Act → World → Prop} {ops : Array Oper} {N : Nat} {o : Oper} {rest : List Oper} {L : List (Nat × Value)} {H R : List Res} {S : Nat → Prop} {wf : World} {K : St → Prop} {st : St} {C : World → Prop}
theorem WW.open {α : Type} {E : Enc α} {e n c : Nat} {A : Option Addr} {l : List α} {w : World} (hp : Pick H (rw_ E e (.slice A n c) l) R) (hw : WW V S wf H w) :
    (A = none ∧ n = 0 ∧ c = 0 ∧ l = [] ∧ WW V S wf R w) ∨ ∃ g sp, A = some ⟨g, 0, none⟩ ∧ n = l.length ∧ l.length ≤ c ∧ c ≤ maxLen ∧ sp.length + l.length * E.sz = c * E.sz ∧ WW V S wf (cel g (flat E l ++ sp) e :: R) w := by
  have hw' := hw.perm hp.perm
  have hh := hw'.has _ (List.mem_cons_self ..)
  rcases rw_holds.1 hh with ⟨h1, rfl⟩ | ⟨g, cap, cur, h1', h2, h3, h4, h5, h6⟩
  · injection h1 with h1 h2 h3
    exact .inl ⟨h1, h2, h3, rfl, WW.drop (C := [_]) hw'⟩
  · injection h1' with h1 h7 h8
    subst h1 h7 h8
    have hlen : (flat E l).length = l.length * E.sz := flat_length E l
    have hcl : cur.toList.length = c * E.sz := by simpa using h5
    have hle : l.length * E.sz ≤ c * E.sz := Nat.mul_le_mul_right _ h3
    refine .inr ⟨g, cur.toList.drop (l.length * E.sz), rfl, rfl, h3, h4, by rw [List.length_drop, hcl]; omega, ?_⟩
    have e1 : flat E l ++ cur.toList.drop (l.length * E.sz) = cur.toList := by rw [← h6]; exact List.take_append_drop _ _
    rw [e1]
    refine WW.change (C := [rw_ E e (.slice (some ⟨g, 0, none⟩) l.length c) l]) (R := R) (C' := [cel g cur.toList e]) hw' (fun _ _ _ => rfl) (Nat.le_refl _) ?_ (by simp [blk]) (fun b hb => .inl (by simpa [blk, rw_, row, Value.ownBlock] using hb)) rfl rfl rfl
    intro r hr
    simp only [List.mem_singleton] at hr
    subst hr
    show w.heap[g]? = some (.cells cur.toList.toArray e (0, 0))
    simpa using h2
theorem SC.open {α : Type} {E : Enc α} {e n c : Nat} {A : Option Addr} {l : List α} {code : Code} (hp : Pick H (rw_ E e (.slice A n c) l) R)
    (h0 : A = none → n = 0 → c = 0 → l = [] → SC V P Q N code ⟨L, R, S, wf⟩)
    (h1 : ∀ g sp, A = some ⟨g, 0, none⟩ → n = l.length → l.length ≤ c → c ≤ maxLen → sp.length + l.length * E.sz = c * E.sz → SC V P Q N code ⟨L, cel g (flat E l ++ sp) e :: R, S, wf⟩) : SC V P Q N code ⟨L, H, S, wf⟩ := by
  intro a w hs hw
  rcases WW.open hp hw with ⟨k1, k2, k3, k4, k5⟩ | ⟨g, sp, k1, k2, k3, k4, k5, k6⟩
  · exact h0 k1 k2 k3 k4 a w hs k5
  · exact h1 g sp k1 k2 k3 k4 k5 a w hs k6
theorem WW.close {α : Type} {E : Enc α} {e g c : Nat} {T : List Value} (l : List α) (sp : List Value) {w : World} (hp : Pick H (cel g T e) R) (hT : T = flat E l ++ sp) (hle : l.length ≤ c) (hm : c ≤ maxLen) (hlen : T.length = c * E.sz) (hw : WW V S wf H w) :
    WW V S wf (rw_ E e (.slice (some ⟨g, 0, none⟩) l.length c) l :: R) w := by
  have hw' := hw.perm hp.perm
  have hb : w.heap[g]? = some (.cells T.toArray e (0, 0)) := hw'.has _ (List.mem_cons_self ..)
  refine WW.change (C := [cel g T e]) (R := R) (C' := [rw_ E e (.slice (some ⟨g, 0, none⟩) l.length c) l]) hw' (fun _ _ _ => rfl) (Nat.le_refl _) ?_ (by simp [rw_, row, Value.ownBlock]) (fun b hb => .inl (by simpa [blk, rw_, row, Value.ownBlock] using hb)) rfl rfl rfl
  intro r hr
  simp only [List.mem_singleton] at hr
  subst hr
  refine rw_holds.2 (.inr ⟨g, c, _, rfl, hb, hle, hm, by simpa using hlen, ?_⟩)
  rw [hT, ← flat_length E l]
  exact List.take_left
theorem SC.close {α : Type} {E : Enc α} {e g c : Nat} {T : List Value} {code : Code} (l : List α) (sp : List Value) (hp : Pick H (cel g T e) R) (hT : T = flat E l ++ sp) (hle : l.length ≤ c) (hm : c ≤ maxLen) (hlen : T.length = c * E.sz)
    (h : SC V P Q N code ⟨L, rw_ E e (.slice (some ⟨g, 0, none⟩) l.length c) l :: R, S, wf⟩) : SC V P Q N code ⟨L, H, S, wf⟩ := fun a w hs hw => h a w hs (WW.close l sp hp hT hle hm hlen hw)
theorem SP.recel {g e : Nat} {T T' : List Value} (hp : Pick H (cel g T e) R) (hT : T = T') (h : SP V P Q ops N rest ⟨L, cel g T' e :: R, S, wf⟩) : SP V P Q ops N rest ⟨L, H, S, wf⟩ := by
  subst hT
  exact fun a w hs hw => h a w hs (hw.perm hp.perm)
theorem SC.recel {g e : Nat} {T T' : List Value} {code : Code} (hp : Pick H (cel g T e) R) (hT : T = T') (h : SC V P Q N code ⟨L, cel g T' e :: R, S, wf⟩) : SC V P Q N code ⟨L, H, S, wf⟩ := by
  subst hT
  exact fun a w hs hw => h a w hs (hw.perm hp.perm)
theorem ev_slcs {t e : TypeId} {x : Operand} {lo hi : Option Operand} {b off n c l h sz : Nat} {ag : Bool} (ho : o.op = .slice t x lo hi none) (hu : P.underlying t = some (.slice e)) (hs : ty P e = some (ag, sz))
    (hx : lk L x = some (.slice (some ⟨b, off, none⟩) n c)) (hlo : Bd L lo 0 l) (hhi : Bd L hi n h) (h1 : l ≤ h) (h2 : h ≤ c) : Ev P C L o (.slice (some ⟨b, cutO off c l sz, none⟩) (h - l) (c - l)) := by
  have := ev_slc (C := C) ho hu hs hx hlo hhi h1 h2
  rwa [cutA_some] at this
end
end Go.SX
namespace Go.SX
open Go Go.RowKit Go.Lib
def put (T : List Value) (p : Nat) (cs : List Value) : List Value := T.take p ++ cs ++ T.drop (p + cs.length)
theorem put_nil (T : List Value) (p : Nat) : put T p [] = T := by simp [put]
theorem put_length {T cs : List Value} {p : Nat} (h : p + cs.length ≤ T.length) : (put T p cs).length = T.length := by
  simp only [put, List.length_append, List.length_take, List.length_drop]; omega
section
variable {V : Env} {P : Program} {Q : Exit → Act → World → Prop} {ops : Array Oper} {N : Nat} {o : Oper} {rest : List Oper} {L : List (Nat × Value)} {H R : List Res} {S : Nat → Prop} {wf : World} {K : St → Prop} {st : St} {C : World → Prop}
theorem OpStep.offu {g t d : Nat} {want : Bool} (hg : o.guard = some (g, want)) (ht : (ops[g]?).bind (·.dst) = some t) (hL : lkp st.L t = some undef) (hd : o.dst = some d) (hdN : Nat.blt d N = true) (h : K ⟨(d, undef) :: st.L, st.H, st.S, st.wf⟩) : OpStep V P Q ops N o st K := by
  intro a w hs hw J hJ
  have h2 : a.tmps.getD t undef = undef := hs.2.2 t undef hL
  have hy : yielded ops a.tmps g = none := by
    rw [Array.getD_eq_getD_getElem?] at h2
    unfold yielded
    rw [ht]
    simp only [Option.bind_some]
    cases hx : a.tmps[t]? with
    | none => rfl
    | some u => rw [hx] at h2; simp at h2; subst h2; rfl
  unfold Step1
  rw [if_neg (by simp [Region.wanted, hg, hy]), hd]
  exact hJ _ h _ _ (hs.put hdN undef) hw
theorem st_app0 {α : Type} {E : Enc α} {t e : TypeId} {x y : Operand} {v : Value} {m : List α} {d : Nat} {z : Value} {bytes : Nat} {A : Option Addr} {n c : Nat} (ho : o.op = .call { callee := .builtin .append, args := #[x, y], argTypes := #[t, t] }) (hg : o.guard = none) (hd : o.dst = some d) (hdN : Nat.blt d N = true)
    (ht : P.underlying t = some (.slice e)) (hi : (P.info? e).map (fun i => (i.zero, i.size, i.bytes)) = some (some z, E.sz, bytes)) (hz : z.cells.size = E.sz)
    (hx : lk L x = some v) (hy : lk L y = some (.slice A n c)) (hp : Pick H (rw_ E e v []) R) (hn : m.length = n)
    (hm : ∀ w, WW V S wf H w → Src w A (flat E m)) (hb : n * bytes ≤ 140737488355328) (hb0 : Nat.ble 1 bytes = true)
    (k : ∀ v', K ⟨(d, v') :: L, rw_ E e v' m :: R, S, wf⟩) : OpStep V P Q ops N o ⟨L, H, S, wf⟩ K :=
  st_app (l := []) ho hg hd hdN ht hi hz hx hy hp hn hm (by rw [List.length_nil, Nat.zero_add]; exact hb) hb0 k
theorem ev_slc0 {t e : TypeId} {x : Operand} {hi : Option Operand} {b off n c h sz : Nat} {ag : Bool} (ho : o.op = .slice t x none hi none) (hu : P.underlying t = some (.slice e)) (hs : ty P e = some (ag, sz))
    (hx : lk L x = some (.slice (some ⟨b, off, none⟩) n c)) (hhi : Bd L hi n h) (h2 : h ≤ c) : Ev P C L o (.slice (some ⟨b, off, none⟩) h c) := by
  have := ev_slcs (C := C) ho hu hs hx .n hhi (Nat.zero_le _) h2
  simpa [cutO_zero] using this
theorem src_blk0 {g e : Nat} {cs T : List Value} (k : Nat) (hk : H[k]? = some (cel g T e)) (hT : T.take cs.length = cs) : ∀ w, WW V S wf H w → Src w (some ⟨g, 0, none⟩) cs := fun w hw => by
  refine .inr ⟨g, _, rfl, ?_⟩
  exact At.elemn (C := WW V S wf H) (At.whole k hk) 0 (by simpa using hT) w hw
theorem run_first0 (P : Program) (A : Option Addr) (sz n c : Nat) (w : World) : (Builtin.firstCells sz 0 (.slice A n c)).run P w = .ok #[] w := by
  cases A <;> simp [Builtin.firstCells, loadCells, loadCellsFrom]
theorem st_copyp {t t' e e' : TypeId} {x y : Operand} {g off c0 l0 nd cd ns c' sz k p : Nat} {A : Option Addr} {ag : Bool} {T : List Value} {d : Nat} (cells : List Value) (ho : o.op = .call { callee := .builtin .copy, args := #[x, y], argTypes := #[t, t'] }) (hg : o.guard = none) (hd : o.dst = some d) (hdN : Nat.blt d N = true)
    (hu : P.underlying t = some (.slice e)) (hs : ty P e = some (ag, sz)) (hsz : Nat.ble 1 sz = true) (hx : lk L x = some (.slice (some ⟨g, cutO off c0 l0 sz, none⟩) nd cd)) (hnd : nd ≤ c0 - l0) (hy : lk L y = some (.slice A ns c'))
    (hk : Nat.min ns nd = k) (hc : cells.length = k * sz) (h1 : cells.all (·.oneCell') = true) (hm : ∀ w, WW V S wf H w → Src w A cells) (hp : Pick H (cel g T e') R) (hpp : off + l0 * sz = p) (hle : p + cells.length ≤ T.length)
    (kk : K ⟨(d, .int .i64 (k : Int)) :: L, cel g (put T p cells) e' :: R, S, wf⟩) : OpStep V P Q ops N o ⟨L, H, S, wf⟩ K := by
  have hsz := Nat.le_of_ble_eq_true hsz
  by_cases hk0 : k = 0
  · subst hk0
    have : cells = [] := List.eq_nil_of_length_eq_zero (by simpa using hc)
    subst this
    rw [put_nil] at kk
    refine .act hg hd hdN (by simp [ho, noSel]) (by simp [ho, Op.operands, Call.operands, known_of hx, known_of hy]) fun w hw => ?_
    obtain ⟨_, inf, _, hi', _, rfl⟩ := ty_spec hs
    refine ⟨_, w, _, by simp [execOp, ho, ev_of hx, ev_of hy, resolve, invoke, builtin, Builtin.copy_, run_underlying hu, Builtin.lenOf, hk, sizeOf, typeInfo, hi', run_first0, storeCells, goInt], hw.perm hp.perm, kk⟩
  · have hne : cells ≠ [] := fun h => by
      subst h
      have h2 : 0 < _ * sz := Nat.mul_pos (Nat.pos_of_ne_zero hk0) hsz
      simp only [List.length_nil] at hc
      omega
    have hmin : k ≤ nd := by rw [← hk]; exact Nat.min_le_right _ _
    have hcut : cutO off c0 l0 sz = p := by rw [cutO_lt (by omega), hpp]
    rw [hcut] at hx
    refine .know (φ := ∃ b q, A = some ⟨b, q, none⟩) (fun w hw => ?_) (fun ⟨b, q, hA⟩ => ?_)
    · rcases hm w hw with h | ⟨b, q, h, _⟩
      · exact absurd h hne
      · exact ⟨b, q, h⟩
    · subst hA
      refine st_copy ho hg hd hdN hu hs hx hy hk hc h1 (fun w hw => ?_) hp hle rfl kk
      rcases hm w hw with h | ⟨b', q', h, hat⟩
      · exact absurd h hne
      · injection h with h
        injection h with h1 h2
        subst h1 h2
        exact hat
theorem SR.recel {g e : Nat} {T T' : List Value} {B : World → Prop} {cs : List (Nat × (World → Prop))} {fuel : Nat} {listed : Array Bool} (hp : Pick H (cel g T e) R) (hT : T = T') (h : SR V P Q ops N B cs fuel listed ⟨L, cel g T' e :: R, S, wf⟩) : SR V P Q ops N B cs fuel listed ⟨L, H, S, wf⟩ := by
  subst hT
  exact fun a w hs hw => h a w hs (hw.perm hp.perm)
theorem SC.close' {α : Type} {E : Enc α} {e g c n : Nat} {T : List Value} {code : Code} (l : List α) (hp : Pick H (cel g T e) R) (hT : T.take (l.length * E.sz) = flat E l) (hn : l.length = n) (hle : n ≤ c) (hm : c ≤ maxLen) (hlen : T.length = c * E.sz)
    (h : SC V P Q N code ⟨L, rw_ E e (.slice (some ⟨g, 0, none⟩) n c) l :: R, S, wf⟩) : SC V P Q N code ⟨L, H, S, wf⟩ := by
  subst hn
  refine SC.close l (T.drop (l.length * E.sz)) hp ?_ hle hm hlen h
  rw [← hT]; exact (List.take_append_drop _ _).symm
end
section
variable {α : Type} {E : Enc α} {l : List α} {T sp : List Value}
theorem all_flat (E : Enc α) (l : List α) : (flat E l).all (·.oneCell') = true := List.all_eq_true.2 (flat_one E l)
end
end Go.SX
namespace Go.SX
open Go Go.RowKit
section
variable {V : Env} {P : Program} {Q : Exit → Act → World → Prop} {ops : Array Oper} {N : Nat} {o : Oper} {rest : List Oper} {L : List (Nat × Value)} {H R : List Res} {S : Nat → Prop} {wf : World} {K : St → Prop} {st : St} {C : World → Prop}
variable {α : Type} [Inhabited α] {E : Enc α} {a b : List Value} {m : List α} {g e off : Nat} {i : Int}
theorem SC.exitq {id : Nat} {Q1 : Act → World → Prop} (hQ : ∀ a w, Q1 a w → Q (.exit id) a w) (h : SQ V Q1 N st) : SC V P Q N (.exit id) st := fun a w hs hw => wp_exit (hQ a w (h a w hs hw))
theorem SC.skipq {Q1 : Act → World → Prop} (hQ : ∀ a w, Q1 a w → Q .normal a w) (h : SQ V Q1 N st) : SC V P Q N .skip st := fun a w hs hw => wp_skip (hQ a w (h a w hs hw))
end
end Go.SX
namespace Go.SX
open Go Go.RowKit
section
variable {V : Env} {P : Program} {Q : Exit → Act → World → Prop} {ops : Array Oper} {N : Nat} {o : Oper} {rest : List Oper} {L : List (Nat × Value)} {H R C : List Res} {S : Nat → Prop} {wf : World} {K : St → Prop} {st : St}
def resF (tmps : Array Value) : ResultVar → Sem Value
  | .tmp t => pure (tmps.getD t undef)
  | .cell t ty => do loadVar ty (← asAddr (tmps.getD t undef))
theorem results_resF (fn : Func) (tmps : Array Value) : results fn tmps = (do let vs ← fn.results.mapM (resF tmps); pure (if h : vs.size = 1 then vs[0] else .tuple vs)) := by
  unfold results
  congr 1
def RV (P : Program) (L : List (Nat × Value)) (D : World → Prop) (r : ResultVar) (v : Value) : Prop := ∀ a w N, SL N L a → D w → (resF a.tmps r).run P w = .ok v w
theorem RV.t {D : World → Prop} {t : Nat} {v : Value} (h : lkp L t = some v) : RV P L D (.tmp t) v := fun a w N hs hw => by
  show (pure (a.tmps.getD t undef) : Sem Value).run P w = _
  rw [hs.2.2 t v h]; rfl
theorem RV.c {t b : Nat} {ty : TypeId} {l : List Value} {e : TypeId} (k : Nat) (h : lkp L t = some (.pointer (some ⟨b, 0, none⟩))) (hk : H[k]? = some (cel b l e)) (ht : SX.ty P ty = some (true, l.length)) : RV P L (WW V S wf H) (.cell t ty) (.agg l.toArray) := fun a w N hs hw => by
  show (do loadVar ty (← asAddr (a.tmps.getD t undef)) : Sem Value).run P w = _
  rw [hs.2.2 t _ h]
  show (loadVar ty ⟨b, 0, none⟩).run P w = _
  exact run_load_at ht (.inl rfl) (At.whole k hk w hw)
end
end Go.SX
namespace Go.SX
open Go Go.RowKit
section
variable {H : Type} {enc : TypeId × Value → H} {P : Program} {w : World} {base : Nat} {spare : Nat → Bool} {held : Bool}
theorem add_zero_add (a : Addr) (i j : Nat) : (a.add i).add j = a.add (i + j) := by
  unfold Addr.add
  split <;> split <;> simp_all <;> omega
end
theorem law_calls {P : Program} {f : FuncId} {args : List Value} {W : World} (h : TR0 P f args [] (fun b => b < W.heap.size) W (fun v C => v = .bool true ∧ C = [])) :
    Calls P f args.toArray W fun e W' => e = .returned (.bool true) ∧ Below W.heap.size W W' := by
  have hw : WW (env W [] (fun b => b < W.heap.size)) (fun b => b < W.heap.size) W [] W := by
    refine ⟨by simp, by simp, by simp, fun b hb => ⟨hb, rfl⟩, fun b hb => .inl hb, fun b _ _ => rfl, Nat.le_refl _, rfl, rfl, rfl⟩
  refine (h W hw).mono ?_
  rintro e W' ⟨v, C', S', wf', rfl, ⟨⟨rfl, rfl⟩, rfl, rfl⟩, _, hw'⟩
  exact ⟨rfl, hw'.os, hw'.tape, hw'.output, hw'.sz, fun k hk => hw'.fr k hk (by simp)⟩
end Go.SX
namespace Go.SX
open Go
def i64 (n : Int) : Prop := -9223372036854775808 ≤ n ∧ n ≤ 9223372036854775807
theorem wf_i64 {n : Int} (h : (Lit.int .i64 n).wf = true) : i64 n := by
  simp [Lit.wf, IntKind.min, IntKind.max] at h
  simpa [IntKind.signed, IntKind.bits, i64] using h
end Go.SX
namespace Go.SX
open Go Go.RowKit
section
variable {V : Env} {P : Program} {Q : Exit → Act → World → Prop} {ops : Array Oper} {N : Nat} {o : Oper} {rest : List Oper} {L : List (Nat × Value)} {H R : List Res} {S : Nat → Prop} {wf : World} {K : St → Prop} {st : St} {C : World → Prop}
def named (o : Oper) (f : FuncId) (args : Array Operand) (ts : Array TypeId) : Oper := { o with op := .call { callee := .value (.func f), args := args, argTypes := ts } }
theorem OpStep.viafun {x : Operand} {f : FuncId} {args : Array Operand} {ts : Array TypeId} (ho : o.op = .call { callee := .value x, args := args, argTypes := ts }) (hx : lk st.L x = some (.func (.func f) #[] #[]))
    (h : OpStep V P Q ops N (named o f args ts) st K) : OpStep V P Q ops N o st K := by
  intro a w hs hw J hJ
  have h1 := h a w hs hw J hJ
  have he : a.eval x = .func (.func f) #[] #[] := hs.eval hx
  have hf : a.eval (.func f) = .func (.func f) #[] #[] := rfl
  have hop : execOp a.eval o = execOp a.eval (named o f args ts) := by
    simp only [execOp, ho, named, resolve, he, hf]
  unfold Step1 at h1 ⊢
  have hwt : Region.wanted (named o f args ts) (yielded ops a.tmps) = Region.wanted o (yielded ops a.tmps) := rfl
  have hwp : (named o f args ts).wp P a w J Q = o.wp P a w J Q := by
    unfold Oper.wp; rw [hop]; rfl
  have has : (named o f args ts).asks P a w = o.asks P a w := by
    unfold Oper.asks; rw [hop]
  rw [hwt, hwp, has] at h1
  exact h1
end
end Go.SX
namespace Go.SX
open Go Go.RowKit
section
variable {V : Env} {P : Program} {Q : Exit → Act → World → Prop} {ops : Array Oper} {N : Nat} {o : Oper} {rest : List Oper} {L : List (Nat × Value)} {H R : List Res} {S : Nat → Prop} {wf : World} {K : St → Prop} {st : St} {C : World → Prop}
theorem eval_consts {a : Act} (cs : Array Value) : (cs.map Operand.const).map a.eval = cs := by
  rw [Array.map_map]
  have : (a.eval ∘ Operand.const) = id := by funext v; rfl
  rw [this, Array.map_id]
theorem OpStep.viacap {x : Operand} {f : FuncId} {caps : Array Value} {args args' : Array Operand} {ts : Array TypeId} (ho : o.op = .call { callee := .value x, args := args, argTypes := ts }) (hx : lk st.L x = some (.func (.func f) #[] caps)) (ha : args' = args ++ caps.map Operand.const)
    (hb : hasBody P f = true) (h : OpStep V P Q ops N (named o f args' ts) st K) : OpStep V P Q ops N o st K := by
  intro a w hs hw J hJ
  have h1 := h a w hs hw J hJ
  have he : a.eval x = .func (.func f) #[] caps := hs.eval hx
  have hf : a.eval (.func f) = .func (.func f) #[] #[] := rfl
  have hop : execOp a.eval o = execOp a.eval (named o f args' ts) := by
    subst ha
    simp only [execOp, ho, named, resolve, he, hf, Deferred.ofValue, invoke, Array.map_append, eval_consts]
    simp
  unfold Step1 at h1 ⊢
  have hwt : Region.wanted (named o f args' ts) (yielded ops a.tmps) = Region.wanted o (yielded ops a.tmps) := rfl
  have hwp : (named o f args' ts).wp P a w J Q = o.wp P a w J Q := by
    unfold Oper.wp; rw [hop]; rfl
  have has : (named o f args' ts).asks P a w = o.asks P a w := by
    unfold Oper.asks; rw [hop]
  rw [hwt, hwp, has] at h1
  exact h1
end
end Go.SX
