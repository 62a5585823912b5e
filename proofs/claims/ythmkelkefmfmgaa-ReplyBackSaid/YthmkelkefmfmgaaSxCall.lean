/- Calls and code. -/
import Derived.Test.YthmkelkefmfmgaaSxRow
import Derived.Deep.LoopGhost
import Derived.Tactics
set_option linter.unusedVariables false
set_option linter.unusedSimpArgs false
namespace Go.SX
open Go Go.RowKit

/-- Where a call of f begins. -/
abbrev env (w : World) (C : List Res) (S : Nat → Prop) : Env := ⟨w, fun b => b ∈ feet C, S⟩

/-- How a call may end. -/
def TRp (V : Env) (S : Nat → Prop) (wf : World) (post : Value → List Res → (Nat → Prop) → World → Prop) : Ending → World → Prop := fun e w' =>
  ∃ v C' S' wf', e = .returned v ∧ post v C' S' wf' ∧ Ext S wf S' wf' ∧ WW V S' wf' C' w'

/-- What a call of f does: it takes the resources C, reads what is frozen, and comes back. -/
def TR (P : Program) (f : FuncId) (args : List Value) (C : List Res) (S : Nat → Prop) (wf : World) (post : Value → List Res → (Nat → Prop) → World → Prop) : Prop :=
  ∀ w, WW (env w C S) S wf C w → Calls P f args.toArray w (TRp (env w C S) S wf post)

/-- The same, nothing being frozen anew. -/
def TR0 (P : Program) (f : FuncId) (args : List Value) (C : List Res) (S : Nat → Prop) (wf : World) (post : Value → List Res → Prop) : Prop :=
  TR P f args C S wf fun v C' S' wf' => post v C' ∧ S' = S ∧ wf' = wf

theorem TR.mono {P : Program} {f : FuncId} {args : List Value} {C : List Res} {S : Nat → Prop} {wf : World} {post post' : Value → List Res → (Nat → Prop) → World → Prop} (h : TR P f args C S wf post) (hp : ∀ v C' S' wf', post v C' S' wf' → post' v C' S' wf') : TR P f args C S wf post' :=
  fun w hw => (h w hw).mono fun e w' ⟨v, C', S', wf', h1, h2, h3⟩ => ⟨v, C', S', wf', h1, hp _ _ _ _ h2, h3⟩
theorem TR0.mono {P : Program} {f : FuncId} {args : List Value} {C : List Res} {S : Nat → Prop} {wf : World} {post post' : Value → List Res → Prop} (h : TR0 P f args C S wf post) (hp : ∀ v C', post v C' → post' v C') : TR0 P f args C S wf post' :=
  TR.mono h fun v C' S' wf' ⟨h1, h2⟩ => ⟨hp _ _ h1, h2⟩

def lkAll (L : List (Nat × Value)) : List Operand → Option (List Value)
  | [] => some []
  | x :: r => match lk L x, lkAll L r with
    | some v, some vs => some (v :: vs)
    | _, _ => none

theorem lkAll_spec {L : List (Nat × Value)} : ∀ {xs : List Operand} {vs : List Value}, lkAll L xs = some vs → xs.map (ev L) = vs ∧ ∀ x ∈ xs, known L x = true
  | [], vs, h => by simp [lkAll] at h; subst h; simp
  | x :: r, vs, h => by
    unfold lkAll at h
    split at h
    · rename_i v us h1 h2
      simp at h
      subst h
      obtain ⟨h3, h4⟩ := lkAll_spec h2
      exact ⟨by simp [ev_of h1, h3], fun y hy => (List.mem_cons.1 hy).elim (fun e => e ▸ known_of h1) (h4 y)⟩
    · cases h

/-- A function whose body is here. -/
def hasBody (P : Program) (f : FuncId) : Bool := match P.funcs[f]? with
  | some fn => fn.name != "runtime.NumGoroutine" && fn.body.isSome
  | none => false

theorem run_callFunc {P : Program} {f : FuncId} (h : hasBody P f = true) (args : Array Value) (w : World) : (callFunc f args).run P w = .ok (.enter f args) w := by
  unfold hasBody at h
  split at h
  · rename_i fn hf
    simp only [Bool.and_eq_true, bne_iff_ne, ne_eq] at h
    have hn : ¬ fn.name = "runtime.NumGoroutine" := by simpa using h.1
    have hb : ¬ fn.body = none := by
      intro hq
      rw [hq] at h
      simp at h
    simp [callFunc, program, Sem.run, hf, hn, hb, Sem.run_bind]
  · cases h

section
variable {V : Env} {P : Program} {Q : Exit → Act → World → Prop} {ops : Array Oper} {N : Nat} {o : Oper} {rest : List Oper} {L : List (Nat × Value)} {H R C R1 : List Res} {S : Nat → Prop} {wf : World} {K : St → Prop} {st : St}

/-- A call's frame: what it leaves alone is as it was. -/
theorem WW.call {w w' : World} {C' : List Res} {S1 S' : Nat → Prop} {wf' : World} (h : WW V S wf (C ++ R) w) (hc : WW (env w C S1) S' wf' C' w') : WW V S wf (C' ++ R) w' :=
  h.change (fun b hb hn => hc.fr b hb hn) hc.sz hc.has hc.nd (fun b hb => (hc.sep b hb).2) hc.os hc.tape hc.output

theorem WW.enter {w : World} (h : WW V S wf (C ++ R) w) : WW (env w C S) S wf C w where
  has r hr := h.has r (List.mem_append_left _ hr)
  nd := by have := h.nd; rw [feet_append] at this; exact (List.nodup_append.1 this).1
  sep b hb := ⟨(h.sep b (by rw [feet_append]; exact List.mem_append_left _ hb)).1, .inl hb⟩
  fz := h.fz
  new b hb := .inl hb
  fr b _ _ := rfl
  sz := Nat.le_refl _
  os := rfl
  tape := rfl
  output := rfl

/-- What is frozen stays so while the owned parts that are lent are frozen, too. -/
theorem WW.lend {w : World} (h : WW V S wf (C ++ (R1 ++ R)) w) : WW (env w C (fun b => S b ∨ b ∈ feet R1)) (fun b => S b ∨ b ∈ feet R1) w C w where
  has r hr := h.has r (List.mem_append_left _ hr)
  nd := by have := h.nd; rw [feet_append] at this; exact (List.nodup_append.1 this).1
  sep b hb := by
    refine ⟨fun hs => ?_, .inl hb⟩
    rcases hs with hs | hs
    · exact (h.sep b (by rw [feet_append]; exact List.mem_append_left _ hb)).1 hs
    · have := h.nd
      rw [feet_append] at this
      exact (List.nodup_append.1 this).2.2 b hb b (by rw [feet_append]; exact List.mem_append_left _ hs) rfl
  fz b hb := by
    refine ⟨?_, rfl⟩
    rcases hb with hb | hb
    · exact h.fz.lt hb
    · exact h.lt b (by simp [hb])
  new b hb := .inl hb
  fr b _ _ := rfl
  sz := Nat.le_refl _
  os := rfl
  tape := rfl
  output := rfl

/-- A callee's new frozen part, seen from the caller. -/
theorem WW.callS {w w' : World} {C' : List Res} {S' : Nat → Prop} {wf' : World} (h : WW V S wf (C ++ R) w) (hc : WW (env w C S) S' wf' C' w') : WW V S' wf' (C' ++ R) w' where
  has := (h.call hc).has
  nd := (h.call hc).nd
  sep b hb := by
    refine ⟨fun hS => ?_, ((h.call hc).sep b hb).2⟩
    rw [feet_append] at hb
    rcases List.mem_append.1 hb with hb | hb
    · exact (hc.sep b hb).1 hS
    · have hlt := h.lt b (by rw [feet_append]; exact List.mem_append_right _ hb)
      rcases hc.new b hS with h1 | h1 | h1
      · exact (h.sep b (by rw [feet_append]; exact List.mem_append_right _ hb)).1 h1
      · have := h.nd
        rw [feet_append] at this
        exact (List.nodup_append.1 this).2.2 b h1 b hb rfl
      · have h1' : w.heap.size ≤ b := h1
        omega
  fz := hc.fz
  new b hb := by
    rcases hc.new b hb with h1 | h1 | h1
    · exact h.new b h1
    · exact .inr (h.sep b (by rw [feet_append]; exact List.mem_append_left _ h1)).2
    · have h1' : w.heap.size ≤ b := h1
      have := h.sz
      exact .inr (.inr (by omega))
  fr := (h.call hc).fr
  sz := (h.call hc).sz
  os := (h.call hc).os
  tape := (h.call hc).tape
  output := (h.call hc).output

theorem OpStep.enter {d : Nat} {f : FuncId} {args : Array Value} (hg : o.guard = none) (hd : o.dst = some d) (hdN : Nat.blt d N = true) (hn : noSel o.op = true) (hk : o.op.operands.all (known L) = true)
    (hrun : ∀ w, (execOp (ev L) o).run P w = .ok (.enter f args) w)
    (h : ∀ w, WW V S wf H w → Calls P f args w fun e w' => ∃ v H' S' wf', e = .returned v ∧ WW V S' wf' H' w' ∧ K ⟨(d, v) :: L, H', S', wf'⟩) : OpStep V P Q ops N o ⟨L, H, S, wf⟩ K := by
  intro a w hs hw J hJ
  unfold Step1
  rw [if_pos (by simp [Region.wanted, hg])]
  refine .inl ?_
  unfold Oper.wp
  rw [exec_ev hs hn hk, hrun, Oper.upon_enter]
  refine (h w hw).mono fun e w' hq => ?_
  obtain ⟨v, H', S', wf', rfl, hw', k⟩ := hq
  show J (a.put o.dst v) w'
  rw [hd]
  exact hJ _ k _ _ (hs.put hdN v) hw'

theorem run_call {x : Array Operand} {ts : Array TypeId} {f : FuncId} {args : List Value} (ho : o.op = .call { callee := .value (.func f), args := x, argTypes := ts }) (hf : hasBody P f = true) (ha : lkAll L x.toList = some args) :
    noSel o.op = true ∧ o.op.operands.all (known L) = true ∧ ∀ w, (execOp (ev L) o).run P w = .ok (.enter f args.toArray) w := by
  obtain ⟨h1, h2⟩ := lkAll_spec ha
  refine ⟨by simp [ho, noSel], ?_, fun w => ?_⟩
  · rw [ho]
    refine Array.all_eq_true_iff_forall_mem.2 fun y hy => ?_
    simp only [Op.operands, Call.operands, Array.mem_append] at hy
    rcases hy with hy | hy
    · simp at hy; subst hy; rfl
    · exact h2 y (by simpa using hy)
  · have hm : x.map (ev L) = args.toArray := by rw [← h1]; cases x; simp
    simp only [execOp, ho, resolve, hm]
    simp [ev, lk, Deferred.ofValue, invoke, run_callFunc hf]

/-- A call of a function whose contract is known. -/
theorem st_call {d : Nat} {f : FuncId} {x : Array Operand} {ts : Array TypeId} {args : List Value} {post : Value → List Res → (Nat → Prop) → World → Prop} (ho : o.op = .call { callee := .value (.func f), args := x, argTypes := ts }) (hg : o.guard = none) (hd : o.dst = some d) (hdN : Nat.blt d N = true)
    (hf : hasBody P f = true) (ha : lkAll L x.toList = some args) (hp : PickL H C R) (hT : TR P f args C S wf post)
    (k : ∀ v C' S' wf', post v C' S' wf' → Ext S wf S' wf' → K ⟨(d, v) :: L, C' ++ R, S', wf'⟩) : OpStep V P Q ops N o ⟨L, H, S, wf⟩ K :=
  have hc := run_call ho hf ha
  .enter hg hd hdN hc.1 hc.2.1 hc.2.2 fun w hw =>
    have hw' := hw.perm hp.perm
    (hT w hw'.enter).mono fun e w' ⟨v, C', S', wf', h1, h2, h3, h4⟩ => ⟨v, _, S', wf', h1, hw'.callS h4, k v C' S' wf' h2 h3⟩

/-- A call that leaves all as it was: its value is told. -/
theorem st_callk {d : Nat} {f : FuncId} {x : Array Operand} {ts : Array TypeId} {args : List Value} {r : Value} (ho : o.op = .call { callee := .value (.func f), args := x, argTypes := ts }) (hg : o.guard = none) (hd : o.dst = some d) (hdN : Nat.blt d N = true)
    (hf : hasBody P f = true) (ha : lkAll L x.toList = some args) (hp : PickL H C R) (hT : TR0 P f args C S wf (fun v C' => v = r ∧ C' = C))
    (k : K ⟨(d, r) :: L, H, S, wf⟩) : OpStep V P Q ops N o ⟨L, H, S, wf⟩ K :=
  have hc := run_call ho hf ha
  .enter hg hd hdN hc.1 hc.2.1 hc.2.2 fun w hw =>
    have hw' := hw.perm hp.perm
    (hT w hw'.enter).mono fun e w' ⟨v, C', S', wf', h1, ⟨⟨h2, h3⟩, h5, h6⟩, _, h4⟩ => by
      subst h2 h3 h5 h6
      exact ⟨v, _, _, _, h1, (hw'.callS h4).perm hp.perm.symm, k⟩
theorem st_callp {d : Nat} {f : FuncId} {x : Array Operand} {ts : Array TypeId} {args : List Value} {r : Value} (ho : o.op = .call { callee := .value (.func f), args := x, argTypes := ts }) (hg : o.guard = none) (hd : o.dst = some d) (hdN : Nat.blt d N = true)
    (hf : hasBody P f = true) (ha : lkAll L x.toList = some args) (hT : TR0 P f args [] S wf (fun v C' => v = r ∧ C' = []))
    (k : K ⟨(d, r) :: L, H, S, wf⟩) : OpStep V P Q ops N o ⟨L, H, S, wf⟩ K :=
  st_callk ho hg hd hdN hf ha .n hT k
/-- The same under a guard. -/
theorem st_gcallk {d g t : Nat} {want b : Bool} {f : FuncId} {x : Array Operand} {ts : Array TypeId} {args : List Value} {r : Value} (ho : o.op = .call { callee := .value (.func f), args := x, argTypes := ts }) (hg : o.guard = some (g, want)) (ht : (ops[g]?).bind (·.dst) = some t) (hL : lkp L t = some (.bool b)) (hd : o.dst = some d) (hdN : Nat.blt d N = true)
    (hf : hasBody P f = true) (ha : b = want → lkAll L x.toList = some args) (hp : PickL H C R) (hT : b = want → TR0 P f args C S wf (fun v C' => v = r ∧ C' = C))
    (k : K ⟨(d, gv b want r) :: L, H, S, wf⟩) : OpStep V P Q ops N o ⟨L, H, S, wf⟩ K := by
  refine .split (st := ⟨L, H, S, wf⟩) hg ht hL (fun hb => st_callk ho rfl hd hdN hf (ha hb) hp (hT hb) ?_) hd hdN (fun hb => ?_)
  · rw [show gv b want r = r from if_pos hb] at k
    exact k
  · rw [show gv b want r = undef from if_neg hb] at k
    exact k
/-- The same where nothing is frozen anew. -/
theorem st_call0 {d : Nat} {f : FuncId} {x : Array Operand} {ts : Array TypeId} {args : List Value} {post : Value → List Res → Prop} (ho : o.op = .call { callee := .value (.func f), args := x, argTypes := ts }) (hg : o.guard = none) (hd : o.dst = some d) (hdN : Nat.blt d N = true)
    (hf : hasBody P f = true) (ha : lkAll L x.toList = some args) (hp : PickL H C R) (hT : TR0 P f args C S wf post)
    (k : ∀ v C', post v C' → K ⟨(d, v) :: L, C' ++ R, S, wf⟩) : OpStep V P Q ops N o ⟨L, H, S, wf⟩ K :=
  st_call ho hg hd hdN hf ha hp hT (by rintro v C' S' wf' ⟨h1, rfl, rfl⟩ _; exact k v C' h1)

theorem st_call00 {d : Nat} {f : FuncId} {x : Array Operand} {ts : Array TypeId} {args : List Value} {post : Value → List Res → Prop} (ho : o.op = .call { callee := .value (.func f), args := x, argTypes := ts }) (hg : o.guard = none) (hd : o.dst = some d) (hdN : Nat.blt d N = true)
    (hf : hasBody P f = true) (ha : lkAll L x.toList = some args) (hp : PickL H C R) (hT : TR0 P f args C S wf post) (hn : ∀ v C', post v C' → C' = [])
    (k : ∀ v, post v [] → K ⟨(d, v) :: L, R, S, wf⟩) : OpStep V P Q ops N o ⟨L, H, S, wf⟩ K :=
  st_call0 ho hg hd hdN hf ha hp hT (fun v C' h => by
    have := hn v C' h
    subst this
    exact k v h)
theorem lkA0 : lkAll L [] = some [] := rfl
theorem lkA1 {x : Operand} {v : Value} {xs : List Operand} {vs : List Value} (h : lk L x = some v) (k : lkAll L xs = some vs) : lkAll L (x :: xs) = some (v :: vs) := by simp [lkAll, h, k]
/-- Owned parts R1 are lent: the callee may read them. -/
theorem st_lend0 {d : Nat} {f : FuncId} {x : Array Operand} {ts : Array TypeId} {args : List Value} {post : Value → List Res → Prop} (ho : o.op = .call { callee := .value (.func f), args := x, argTypes := ts }) (hg : o.guard = none) (hd : o.dst = some d) (hdN : Nat.blt d N = true)
    (hf : hasBody P f = true) (ha : lkAll L x.toList = some args) {R0 : List Res} (hp : PickL H C R0) (hp1 : PickL R0 R1 R) (hT : ∀ w, WW V S wf (C ++ (R1 ++ R)) w → TR0 P f args C (fun b => S b ∨ b ∈ feet R1) w post)
    (k : ∀ v C', post v C' → K ⟨(d, v) :: L, C' ++ (R1 ++ R), S, wf⟩) : OpStep V P Q ops N o ⟨L, H, S, wf⟩ K :=
  have hc := run_call ho hf ha
  .enter hg hd hdN hc.1 hc.2.1 hc.2.2 fun w hw =>
    have hw' := hw.perm (hp.perm.trans (List.Perm.append_left C hp1.perm))
    (hT w hw' w hw'.lend).mono fun e w' ⟨v, C', S', wf', h1, ⟨h2, h5, h6⟩, h3, h4⟩ => ⟨v, _, S, wf, h1, hw'.call h4, k v C' h2⟩

/-! ### Code -/
theorem SC.seq {x y : Code} (h : SC V P (Exit.then (y.wp P Q) Q) N x st) : SC V P Q N (.seq x y) st := fun a w hs hw => wp_seq (h a w hs hw)
theorem SQ.then {y : Code} (h : SC V P Q N y st) : SQ V (Exit.then (y.wp P Q) Q .normal) N st := h
theorem SC.skip (h : SQ V (Q .normal) N st) : SC V P Q N .skip st := fun a w hs hw => wp_skip (h a w hs hw)
theorem SC.block {id : Nat} {c : Code} (h : SC V P (Exit.inBlock id Q) N c st) : SC V P Q N (.block id c) st := fun a w hs hw => wp_block (h a w hs hw)
theorem SC.exit {id : Nat} {y : Code} {Q1 : Exit → Act → World → Prop} (hQ : ∀ a w, y.wp P Q1 a w → Q (.exit id) a w) (h : SC V P Q1 N y st) : SC V P Q N (.exit id) st := fun a w hs hw => wp_exit (hQ a w (h a w hs hw))
theorem SC.ret {Q1 : Act → World → Prop} (hQ : ∀ a w, Q1 a w → Q .ret a w) (h : SQ V Q1 N st) : SC V P Q N .ret st := fun a w hs hw => wp_ret (hQ a w (h a w hs hw))
/-- Straight on. -/
theorem SP.go {y : Code} {Q1 : Exit → Act → World → Prop} (hQ : ∀ a w, y.wp P Q1 a w → Q .normal a w) (h : SC V P Q1 N y st) : SP V P Q ops N [] st := fun a w hs hw => hQ a w (h a w hs hw)
theorem SC.skipgo {y : Code} {Q1 : Exit → Act → World → Prop} (hQ : ∀ a w, y.wp P Q1 a w → Q .normal a w) (h : SC V P Q1 N y st) : SC V P Q N .skip st := fun a w hs hw => wp_skip (hQ a w (h a w hs hw))
theorem SC.region {id : Nat} {l : List Oper} (h : SP V P Q l.toArray N l st) : SC V P Q N (.region id l.toArray false) st := fun a w hs hw => wp_region_lit (h a w hs hw)
theorem SC.cond {c : Operand} {x y : Code} {b : Bool} (hc : lk st.L c = some (.bool b)) (ht : b = true → SC V P Q N x st) (hf : b = false → SC V P Q N y st) : SC V P Q N (.cond c x y) st :=
  fun a w hs hw => wp_cond_split (hs.eval hc) (fun h => ht h a w hs hw) (fun h => hf h a w hs hw)

theorem SC.condI {c : Operand} {x y : Code} {b : Bool} {p : Prop} (hc : lk st.L c = some (.bool b)) (hp : b = true ↔ p) (ht : p → SC V P Q N x st) (hf : ¬ p → SC V P Q N y st) : SC V P Q N (.cond c x y) st :=
  .cond hc (fun h => ht (bT hp h)) (fun h => hf (bF hp h))
theorem SC.cond_t {c : Operand} {x y : Code} (hc : lk st.L c = some (.bool true)) (h : SC V P Q N x st) : SC V P Q N (.cond c x y) st := .cond hc (fun _ => h) (fun h => by cases h)
theorem SC.cond_f {c : Operand} {x y : Code} (hc : lk st.L c = some (.bool false)) (h : SC V P Q N y st) : SC V P Q N (.cond c x y) st := .cond hc (fun h => by cases h) (fun _ => h)
inductive Sub (L : List (Nat × Value)) : List (Nat × Value) → Prop where
  | n : Sub L []
  | c {k : Nat} {v : Value} {r : List (Nat × Value)} : lkp L k = some v → Sub L r → Sub L ((k, v) :: r)
theorem Sub.get {L L' : List (Nat × Value)} (h : Sub L L') : ∀ k v, lkp L' k = some v → lkp L k = some v := by
  induction h with
  | n => intro k v hk; simp [lkp] at hk
  | c h1 _ ih =>
    intro k v hk
    rename_i k' v' r _
    unfold lkp at hk
    cases hq : Nat.beq k k' with
    | true =>
      have := Nat.eq_of_beq_eq_true hq
      subst this
      rw [hq] at hk
      simp at hk
      subst hk
      exact h1
    | false =>
      rw [hq] at hk
      exact ih k v hk
/-- A loop: x tells where it stands. -/
theorem SC.loop {c : Code} {X : Type} (I : X → Prop) (Lf : X → List (Nat × Value)) (Hf : X → List Res) (Sf : X → Nat → Prop) (Wf : X → World) (μ : X → Nat)
    (h0 : ∀ a w, SL N st.L a → WW V st.S st.wf st.H w → ∃ x, I x ∧ SL N (Lf x) a ∧ WW V (Sf x) (Wf x) (Hf x) w)
    (h : ∀ x, I x → SC V P (Exit.then (fun a w => ∃ y, (I y ∧ μ y < μ x) ∧ SL N (Lf y) a ∧ WW V (Sf y) (Wf y) (Hf y) w) Q) N c ⟨Lf x, Hf x, Sf x, Wf x⟩) : SC V P Q N (.loop c) st := by
  intro a w hs hw
  obtain ⟨x0, hi0, hs0, hw0⟩ := h0 a w hs hw
  refine wp_loop_ghost (fun n a w => ∃ x, μ x = n ∧ I x ∧ SL N (Lf x) a ∧ WW V (Sf x) (Wf x) (Hf x) w) (μ x0) ⟨x0, rfl, hi0, hs0, hw0⟩ ?_
  rintro n a w ⟨x, rfl, hi, hs, hw⟩
  refine wp_mono (h x hi a w hs hw) fun e a w q => ?_
  cases e with
  | normal =>
    obtain ⟨y, ⟨hy, hlt⟩, h1, h2⟩ := q
    exact ⟨μ y, hlt, y, rfl, hy, h1, h2⟩
  | exit id => exact q
  | goto l => exact q
  | ret => exact q
  | panic ch => exact q
  | outgrown => exact q

/-- The round's end. -/
theorem SQ.round {X : Type} {I : X → Prop} {Lf : X → List (Nat × Value)} {Hf : X → List Res} {Sf : X → Nat → Prop} {Wf : X → World} {μ : X → Nat} {x : X} (y : X) (hi : I y) (hm : μ y < μ x)
    (hL : ∀ k v, lkp (Lf y) k = some v → lkp st.L k = some v) (hw : ∀ w, WW V st.S st.wf st.H w → WW V (Sf y) (Wf y) (Hf y) w) :
    SQ V (Exit.then (fun a w => ∃ y, (I y ∧ μ y < μ x) ∧ SL N (Lf y) a ∧ WW V (Sf y) (Wf y) (Hf y) w) Q .normal) N st :=
  fun a w hs hw' => ⟨y, ⟨hi, hm⟩, hs.mono hL, hw w hw'⟩

/-! ### The frame of a function -/
def enum0 : Nat → List Value → List (Nat × Value)
  | _, [] => []
  | k, v :: r => (k, v) :: enum0 (k + 1) r

theorem enum0_spec : ∀ (vs : List Value) (k j : Nat) (v : Value), lkp (enum0 k vs) j = some v → k ≤ j ∧ vs[j - k]? = some v
  | [], k, j, v, h => by simp [enum0, lkp] at h
  | u :: r, k, j, v, h => by
    unfold enum0 lkp at h
    cases hq : Nat.beq j k with
    | true =>
      have := Nat.eq_of_beq_eq_true hq
      subst this
      rw [hq] at h
      simp at h
      subst h
      exact ⟨Nat.le_refl _, by simp⟩
    | false =>
      rw [hq] at h
      have hne : j ≠ k := fun e => by subst e; simp at hq
      obtain ⟨h1, h2⟩ := enum0_spec r (k + 1) j v h
      refine ⟨by omega, ?_⟩
      rw [show j - k = (j - (k + 1)) + 1 from by omega, List.getElem?_cons_succ]
      exact h2

theorem TR.mk {f : FuncId} {fn : Func} {c : Code} {args : List Value} {post : Value → List Res → (Nat → Prop) → World → Prop} {L0 : List (Nat × Value)} (hf : P.funcs[f]? = some fn) (hb : fn.body = some c) (hN : fn.ntmps = N) (hn : Nat.ble args.length N = true) (hL : enum0 0 args = L0)
    (h : ∀ w, SC (env w C S) P (bodyPost P fn (TRp (env w C S) S wf post)) N c ⟨L0, C, S, wf⟩) : TR P f args C S wf post := by
  intro w hw
  refine calls_of_wp hf hb ?_
  have hle : args.length ≤ N := Nat.le_of_ble_eq_true hn
  refine h w _ w ⟨?_, rfl, fun k v hk => ?_⟩ hw
  · simp [hN]; omega
  · subst hL
    obtain ⟨_, h2⟩ := enum0_spec args 0 k v hk
    simp only [Nat.sub_zero] at h2
    have hlt : k < args.length := (List.getElem?_eq_some_iff.1 h2).1
    simp only [Array.getD_eq_getD_getElem?]
    rw [Array.getElem?_append_left (by simpa using hlt)]
    simp [h2]

/-- What is left alone may be forgotten. -/
theorem WW.keep {w : World} (h : WW V S wf H w) (hp : PickL H C R) : WW V S wf C w :=
  (h.perm (hp.perm.trans List.perm_append_comm)).drop

def resTmps (rs : Array ResultVar) (L : List (Nat × Value)) : Option (List Value) :=
  rs.toList.mapM fun | .tmp t => lkp L t | .cell _ _ => none

theorem run_results1 {fn : Func} {t : Nat} {v : Value} {a : Act} {w : World} (hr : fn.results = #[.tmp t]) (hs : SL N L a) (hv : lkp L t = some v) : (results fn a.tmps).run P w = .ok v w := by
  rw [results_tmp hr, hs.2.2 t v hv]
theorem run_results2 {fn : Func} {t u : Nat} {v v' : Value} {a : Act} {w : World} (hr : fn.results = #[.tmp t, .tmp u]) (hs : SL N L a) (hv : lkp L t = some v) (hv' : lkp L u = some v') : (results fn a.tmps).run P w = .ok (.tuple #[v, v']) w := by
  rw [results_tmp2 hr, hs.2.2 t v hv, hs.2.2 u v' hv']
theorem run_results3 {fn : Func} {t u x : Nat} {v v' v'' : Value} {a : Act} {w : World} (hr : fn.results = #[.tmp t, .tmp u, .tmp x]) (hs : SL N L a) (hv : lkp L t = some v) (hv' : lkp L u = some v') (hv'' : lkp L x = some v'') : (results fn a.tmps).run P w = .ok (.tuple #[v, v', v'']) w := by
  rw [← hs.2.2 t v hv, ← hs.2.2 u v' hv', ← hs.2.2 x v'' hv'']
  simp [results, hr]

theorem Ext.of_fz {w : World} (h : WW V S wf H w) : Ext S wf S wf := fun b hb => ⟨hb, (h.fz b hb).1, rfl⟩
/-- The return of one value, nothing being frozen anew. -/
theorem ret1 {fn : Func} {t : Nat} {v : Value} {post : Value → List Res → Prop} (hr : fn.results = #[.tmp t]) (hv : lkp L t = some v) (hp : PickL H C R) (h : post v C) :
    SQ V (bodyPost P fn (TRp V S wf fun v C' S' wf' => post v C' ∧ S' = S ∧ wf' = wf) .ret) N ⟨L, H, S, wf⟩ := fun a w hs hw =>
  ⟨hs.2.1, v, run_results1 hr hs hv, v, C, S, wf, rfl, ⟨h, rfl, rfl⟩, .of_fz hw, hw.keep hp⟩
theorem ret2 {fn : Func} {t u : Nat} {v v' : Value} {post : Value → List Res → Prop} (hr : fn.results = #[.tmp t, .tmp u]) (hv : lkp L t = some v) (hv' : lkp L u = some v') (hp : PickL H C R) (h : post (.tuple #[v, v']) C) :
    SQ V (bodyPost P fn (TRp V S wf fun v C' S' wf' => post v C' ∧ S' = S ∧ wf' = wf) .ret) N ⟨L, H, S, wf⟩ := fun a w hs hw =>
  ⟨hs.2.1, _, run_results2 hr hs hv hv', _, C, S, wf, rfl, ⟨h, rfl, rfl⟩, .of_fz hw, hw.keep hp⟩
theorem ret3 {fn : Func} {t u x : Nat} {v v' v'' : Value} {post : Value → List Res → Prop} (hr : fn.results = #[.tmp t, .tmp u, .tmp x]) (hv : lkp L t = some v) (hv' : lkp L u = some v') (hv'' : lkp L x = some v'') (hp : PickL H C R) (h : post (.tuple #[v, v', v'']) C) :
    SQ V (bodyPost P fn (TRp V S wf fun v C' S' wf' => post v C' ∧ S' = S ∧ wf' = wf) .ret) N ⟨L, H, S, wf⟩ := fun a w hs hw =>
  ⟨hs.2.1, _, run_results3 hr hs hv hv' hv'', _, C, S, wf, rfl, ⟨h, rfl, rfl⟩, .of_fz hw, hw.keep hp⟩
theorem ret0 {fn : Func} {post : Value → List Res → Prop} (hr : fn.results = #[]) (hp : PickL H C R) (h : post (.tuple #[]) C) :
    SQ V (bodyPost P fn (TRp V S wf fun v C' S' wf' => post v C' ∧ S' = S ∧ wf' = wf) .ret) N ⟨L, H, S, wf⟩ := fun a w hs hw =>
  ⟨hs.2.1, _, results_none hr _ _ _, _, C, S, wf, rfl, ⟨h, rfl, rfl⟩, .of_fz hw, hw.keep hp⟩
/-- The end of a body without a return. -/
theorem end0 {fn : Func} {post : Value → List Res → Prop} (hr : fn.results = #[]) (hp : PickL H C R) (h : post (.tuple #[]) C) :
    SQ V (bodyPost P fn (TRp V S wf fun v C' S' wf' => post v C' ∧ S' = S ∧ wf' = wf) .normal) N ⟨L, H, S, wf⟩ := fun a w hs hw =>
  ⟨hs.2.1, _, results_none hr _ _ _, _, C, S, wf, rfl, ⟨h, rfl, rfl⟩, .of_fz hw, hw.keep hp⟩

end
end Go.SX
