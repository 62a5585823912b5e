/- The operations that change memory. -/
import Derived.Test.YthmkelkefmfmgaaSxOps
set_option linter.unusedVariables false
set_option linter.unusedSimpArgs false
namespace Go.SX
open Go Go.RowKit

/-! ### Lists, told so that what comes out is found by unification -/
inductive Pick {α : Type} : List α → α → List α → Prop where
  | h {r : α} {H : List α} : Pick (r :: H) r H
  | t {r x : α} {H R : List α} : Pick H r R → Pick (x :: H) r (x :: R)
inductive PickL {α : Type} : List α → List α → List α → Prop where
  | n {H : List α} : PickL H [] H
  | c {H R R' C : List α} {r : α} : Pick H r R → PickL R C R' → PickL H (r :: C) R'
inductive LSet {α : Type} : List α → Nat → α → List α → Prop where
  | h {r r' : α} {H : List α} : LSet (r :: H) 0 r' (r' :: H)
  | t {r' x : α} {n : Nat} {H R : List α} : LSet H n r' R → LSet (x :: H) (n + 1) r' (x :: R)

theorem Pick.perm {α : Type} {H R : List α} {r : α} (h : Pick H r R) : H.Perm (r :: R) := by
  induction h with
  | h => exact List.Perm.refl _
  | t _ ih => exact (ih.cons _).trans (List.Perm.swap _ _ _)
theorem PickL.perm {α : Type} {H C R : List α} (h : PickL H C R) : H.Perm (C ++ R) := by
  induction h with
  | n => exact List.Perm.refl _
  | c hp _ ih => exact hp.perm.trans (ih.cons _)
theorem LSet.eq {α : Type} {l l' : List α} {n : Nat} {v : α} (h : LSet l n v l') : l' = l.set n v ∧ n < l.length := by
  induction h with
  | h => simp
  | t _ ih => simp [ih.1, ih.2]

theorem feet_perm {H H' : List Res} (h : H.Perm H') : (feet H).Perm (feet H') := by
  induction h with
  | nil => exact List.Perm.refl _
  | cons x _ ih => simp only [feet_cons]; exact List.Perm.append_left _ ih
  | swap x y l => simp only [feet_cons]; rw [← List.append_assoc, ← List.append_assoc]; exact List.Perm.append_right _ List.perm_append_comm
  | trans _ _ ih1 ih2 => exact ih1.trans ih2

section
variable {V : Env} {S : Nat → Prop} {wf : World} {H H' C R : List Res} {w w' : World}

theorem WW.perm (h : WW V S wf H w) (hp : H.Perm H') : WW V S wf H' w where
  has r hr := h.has r (hp.mem_iff.2 hr)
  nd := (feet_perm hp).nodup_iff.1 h.nd
  sep b hb := h.sep b ((feet_perm hp).mem_iff.2 hb)
  fz := h.fz
  new := h.new
  fr := h.fr
  sz := h.sz
  os := h.os
  tape := h.tape
  output := h.output

theorem WW.drop (h : WW V S wf (C ++ R) w) : WW V S wf R w where
  has r hr := h.has r (List.mem_append_right _ hr)
  nd := by have := h.nd; rw [feet_append] at this; exact (List.nodup_append.1 this).2.1
  sep b hb := h.sep b (by rw [feet_append]; exact List.mem_append_right _ hb)
  fz := h.fz
  new := h.new
  fr := h.fr
  sz := h.sz
  os := h.os
  tape := h.tape
  output := h.output

theorem WW.lt (h : WW V S wf H w) : ∀ b ∈ feet H, b < w.heap.size := fun b hb => by
  obtain ⟨r, hr, hb⟩ := mem_feet.1 hb
  exact r.lt w (h.has r hr) b hb

/-- The world changes at the feet of C alone, where C' stands then; what is new stands above all. -/
theorem WW.change {C' : List Res} (h : WW V S wf (C ++ R) w) (hout : ∀ b, b < w.heap.size → b ∉ feet C → w'.heap[b]? = w.heap[b]?) (hsz : w.heap.size ≤ w'.heap.size)
    (hC : ∀ r ∈ C', r.holds w') (hnd : (feet C').Nodup) (hsub : ∀ b ∈ feet C', b ∈ feet C ∨ w.heap.size ≤ b) (hos : w'.os = w.os) (htape : w'.tape = w.tape) (hout' : w'.output = w.output) : WW V S wf (C' ++ R) w' where
  has r hr := by
    rcases List.mem_append.1 hr with hr | hr
    · exact hC r hr
    · refine r.stable w w' (fun b hb => ?_) (h.has r (List.mem_append_right _ hr))
      have hbR : b ∈ feet R := mem_feet.2 ⟨r, hr, hb⟩
      refine hout b (h.lt b (by rw [feet_append]; exact List.mem_append_right _ hbR)) (fun hc => ?_)
      have := h.nd
      rw [feet_append] at this
      exact (List.nodup_append.1 this).2.2 b hc b hbR rfl
  nd := by
    have hn := h.nd
    rw [feet_append] at hn ⊢
    obtain ⟨_, h2, h3⟩ := List.nodup_append.1 hn
    refine List.nodup_append.2 ⟨hnd, h2, fun a ha b hb e => ?_⟩
    subst e
    rcases hsub a ha with hs | hs
    · exact h3 a hs a hb rfl
    · have := h.lt a (by rw [feet_append]; exact List.mem_append_right _ hb)
      omega
  sep b hb := by
    rw [feet_append] at hb
    rcases List.mem_append.1 hb with hb | hb
    · rcases hsub b hb with hs | hs
      · exact h.sep b (by rw [feet_append]; exact List.mem_append_left _ hs)
      · refine ⟨fun hS => ?_, .inr (by have := h.sz; omega)⟩
        have := h.fz.lt hS
        omega
    · exact h.sep b (by rw [feet_append]; exact List.mem_append_right _ hb)
  fz b hb := by
    refine ⟨(h.fz b hb).1, ?_⟩
    rw [hout b (h.fz.lt hb) (fun hc => (h.sep b (by rw [feet_append]; exact List.mem_append_left _ hc)).1 hb)]
    exact (h.fz b hb).2
  new := h.new
  fr b hb hM := by
    rw [hout b (by have := h.sz; omega) (fun hc => ?_)]
    · exact h.fr b hb hM
    · rcases (h.sep b (by rw [feet_append]; exact List.mem_append_left _ hc)).2 with h1 | h1
      · exact hM h1
      · omega
  sz := Nat.le_trans h.sz hsz
  os := hos.trans h.os
  tape := htape.trans h.tape
  output := hout'.trans h.output

theorem WW.drew (h : WW V S wf H w) : WW V S wf H w.drew where
  has r hr := r.stable w w.drew (fun _ _ => rfl) (h.has r hr)
  nd := h.nd
  sep := h.sep
  fz := h.fz
  new := h.new
  fr := h.fr
  sz := h.sz
  os := h.os
  tape := h.tape
  output := h.output

theorem WW.alloc (h : WW V S wf H w) (o : Obj) : WW V S wf (blk w.heap.size o :: H) (w.alloc o) := by
  refine WW.change (C := []) (R := H) (C' := [blk w.heap.size o]) h (fun b hb _ => Below.heap_alloc w o b hb) (by simp) ?_ (by simp [blk]) (fun b hb => .inr ?_) rfl rfl rfl
  · intro r hr
    simp only [List.mem_singleton] at hr
    subst hr
    exact heap_alloc_new w o
  · simp [blk] at hb
    omega

theorem setCell_size (w : World) (a : Addr) (v : Value) : (w.setCell a v).heap.size = w.heap.size := by simp [World.setCell]
end

/-- A block whose cells are written out. -/
abbrev cel (b : Nat) (l : List Value) (e : TypeId) : Res := blk b (.cells l.toArray e (0, 0))

section
variable {V : Env} {P : Program} {Q : Exit → Act → World → Prop} {ops : Array Oper} {N : Nat} {o : Oper} {rest : List Oper} {L : List (Nat × Value)} {H R : List Res} {S : Nat → Prop} {wf : World} {K : St → Prop} {st : St}

/-- An operation that yields a value and changes the world. -/
theorem OpStep.act {d : Nat} (hg : o.guard = none) (hd : o.dst = some d) (hdN : Nat.blt d N = true) (hn : noSel o.op = true) (hk : o.op.operands.all (known L) = true)
    (h : ∀ w, WW V S wf H w → ∃ v w' H', (execOp (ev L) o).run P w = .ok (.value v) w' ∧ WW V S wf H' w' ∧ K ⟨(d, v) :: L, H', S, wf⟩) : OpStep V P Q ops N o ⟨L, H, S, wf⟩ K := by
  intro a w hs hw J hJ
  unfold Step1
  rw [if_pos (by simp [Region.wanted, hg])]
  refine .inl ?_
  obtain ⟨v, w', H', hr, hw', k⟩ := h w hw
  unfold Oper.wp
  rw [exec_ev hs hn hk, hr, Oper.upon_value, hd]
  exact hJ _ k _ _ (hs.put hdN v) hw'

/-- One that yields none. -/
theorem OpStep.eff (hg : o.guard = none) (hd : o.dst = none) (hn : noSel o.op = true) (hk : o.op.operands.all (known L) = true)
    (h : ∀ w, WW V S wf H w → ∃ w' H', (execOp (ev L) o).run P w = .ok .skip w' ∧ WW V S wf H' w' ∧ K ⟨L, H', S, wf⟩) : OpStep V P Q ops N o ⟨L, H, S, wf⟩ K := by
  intro a w hs hw J hJ
  unfold Step1
  rw [if_pos (by simp [Region.wanted, hg])]
  refine .inl ?_
  obtain ⟨w', H', hr, hw', k⟩ := h w hw
  unfold Oper.wp
  rw [exec_ev hs hn hk, hr, Oper.upon_skip, hd]
  exact hJ _ k _ _ hs hw'

/-- A new variable with the cells of a struct. -/
theorem st_boxa {t : TypeId} {x : Operand} {l : List Value} {d : Nat} (ho : o.op = .box t x) (hg : o.guard = none) (hd : o.dst = some d) (hdN : Nat.blt d N = true) (hx : lk L x = some (.agg l.toArray))
    (k : ∀ b, K ⟨(d, .pointer (some ⟨b, 0, none⟩)) :: L, cel b l t :: H, S, wf⟩) : OpStep V P Q ops N o ⟨L, H, S, wf⟩ K :=
  .act hg hd hdN (by simp [ho, noSel]) (by simp [ho, Op.operands, known_of hx]) fun w hw =>
    ⟨_, _, _, by simp [execOp, ho, ev_of hx, Instr.box, newVar, newRow, newObj, Value.cells, Sem.run], hw.alloc _, k w.heap.size⟩
/-- A new variable of one cell. -/
theorem st_box1 {t : TypeId} {x : Operand} {v : Value} {d : Nat} (ho : o.op = .box t x) (hg : o.guard = none) (hd : o.dst = some d) (hdN : Nat.blt d N = true) (hx : lk L x = some v) (h1 : v.cells = #[v])
    (k : ∀ b, K ⟨(d, .pointer (some ⟨b, 0, none⟩)) :: L, cel b [v] t :: H, S, wf⟩) : OpStep V P Q ops N o ⟨L, H, S, wf⟩ K :=
  .act hg hd hdN (by simp [ho, noSel]) (by simp [ho, Op.operands, known_of hx]) fun w hw =>
    ⟨_, _, _, by simp [execOp, ho, ev_of hx, Instr.box, newVar, newRow, newObj, h1, Sem.run], hw.alloc _, k w.heap.size⟩
/-- A new variable with its type's zero. -/
theorem st_alloc {t : TypeId} {l : List Value} {d : Nat} (ho : o.op = .alloc t) (hg : o.guard = none) (hd : o.dst = some d) (hdN : Nat.blt d N = true) (hz : (P.info? t).bind (fun i => i.zero.map Value.cells) = some l.toArray)
    (k : ∀ b, K ⟨(d, .pointer (some ⟨b, 0, none⟩)) :: L, cel b l t :: H, S, wf⟩) : OpStep V P Q ops N o ⟨L, H, S, wf⟩ K :=
  .act hg hd hdN (by simp [ho, noSel]) (by simp [ho, Op.operands]) fun w hw => by
    obtain ⟨i, hi, hz⟩ := Option.bind_eq_some_iff.1 hz
    obtain ⟨z, hz1, hz2⟩ := Option.map_eq_some_iff.1 hz
    exact ⟨_, _, _, by simp [execOp, ho, Instr.alloc, zeroValue, typeInfo, hi, hz1, newVar, newRow, newObj, hz2, Sem.run], hw.alloc _, k w.heap.size⟩

theorem run_store1 {P : Program} {t : TypeId} {w : World} {b off : Nat} {l : List Value} {e : TypeId} {v : Value} (ht : ty P t = some (false, 1)) (hv : v.oneCell' = true) (hb : w.heap[b]? = some (.cells l.toArray e (0, 0))) (ho : off < l.length) :
    (storeVar t ⟨b, off, none⟩ v).run P w = .ok () (w.setCell ⟨b, off, none⟩ v) := by
  obtain ⟨d, i, hu, hi, hd, hs⟩ := ty_spec ht
  have hc : v.cells = #[v] := by cases v <;> first | rfl | simp [Value.oneCell'] at hv
  have hcell : w.cell? ⟨b, off, none⟩ = some l[off] := by simp [World.cell?, hb, ho]
  have hfr : w.frozen? ⟨b, off, none⟩ = false := by simp [World.frozen?, hb]
  cases v <;> first | (simp [Value.oneCell'] at hv; done) | simp [storeVar, sizeOf, typeInfo, hi, hs, hc, storeCells, store, Addr.add, Sem.run, hcell, hfr]

theorem heap_setCell_at {w : World} {b off : Nat} {l : List Value} {e : TypeId} {v : Value} (hb : w.heap[b]? = some (.cells l.toArray e (0, 0))) : (w.setCell ⟨b, off, none⟩ v).heap[b]? = some (.cells (l.set off v).toArray e (0, 0)) := by
  simp [World.setCell, Array.getElem?_modify, hb]

/-- A store of one cell into a block whose cells are written out. -/
theorem st_store1 {t e : TypeId} {x y : Operand} {b off : Nat} {v : Value} {l l' : List Value} (ho : o.op = .store t x y) (hg : o.guard = none) (hd : o.dst = none) (ht : ty P t = some (false, 1)) (hx : lk L x = some (.pointer (some ⟨b, off, none⟩))) (hy : lk L y = some v)
    (hv : v.oneCell' = true) (hp : Pick H (cel b l e) R) (hl : LSet l off v l') (k : K ⟨L, cel b l' e :: R, S, wf⟩) : OpStep V P Q ops N o ⟨L, H, S, wf⟩ K :=
  .eff hg hd (by simp [ho, noSel]) (by simp [ho, Op.operands, known_of hx, known_of hy]) fun w hw => by
    obtain ⟨rfl, hlt⟩ := hl.eq
    have hw' := hw.perm hp.perm
    have hb : w.heap[b]? = some (.cells l.toArray e (0, 0)) := hw'.has _ (List.mem_cons_self ..)
    refine ⟨_, _, by simp [execOp, ho, ev_of hx, ev_of hy, Instr.storeAt, Instr.sureAddr, run_store1 ht hv hb hlt]; rfl, ?_, k⟩
    refine WW.change (C := [cel b l e]) (R := R) (C' := [cel b (l.set off v) e]) hw' (fun b' _ hn => Below.heap_setCell _ _ _ _ (by simpa [blk] using hn)) (by simp) ?_ (by simp [blk]) (fun b' hb' => .inl (by simpa [blk] using hb')) rfl rfl rfl
    intro r hr
    simp only [List.mem_singleton] at hr
    subst hr
    exact heap_setCell_at hb

theorem run_storea {P : Program} {t : TypeId} {w : World} {b off : Nat} {l vs : List Value} {e : TypeId} {ag : Bool} {u : Value} (hcu : u.cells = vs.toArray) (ht : ty P t = some (ag, vs.length)) (hv : vs.all (·.oneCell') = true) (hb : w.heap[b]? = some (.cells l.toArray e (0, 0))) (ho : off + vs.length ≤ l.length) :
    ∃ w', (storeVar t ⟨b, off, none⟩ u).run P w = .ok () w' ∧ w'.heap[b]? = some (.cells (l.take off ++ vs ++ l.drop (off + vs.length)).toArray e (0, 0)) ∧ (∀ b', b' ≠ b → w'.heap[b']? = w.heap[b']?) ∧ w'.heap.size = w.heap.size ∧ w'.os = w.os ∧ w'.tape = w.tape ∧ w'.output = w.output := by
  obtain ⟨d, i, hu, hi, hd, hs⟩ := ty_spec ht
  have h1 : ∀ v ∈ vs, v.oneCell' = true := List.all_eq_true.1 hv
  have hst := run_storeCells_at P b off e vs 0 l.toArray w hb (by simpa using ho) h1
  simp only [Nat.add_zero] at hst
  refine ⟨_, by simp [storeVar, sizeOf, typeInfo, hi, hs, hcu, hst]; rfl, setRow_heap w b _ _ e _ hb |>.trans ?_, fun b' hb' => setRow_other w b b' _ hb', by simp, rfl, rfl, rfl⟩
  simp

/-- A store of several cells. -/
theorem st_storea {t e : TypeId} {x y : Operand} {b off : Nat} {ag : Bool} {vs l l' : List Value} (ho : o.op = .store t x y) (hg : o.guard = none) (hd : o.dst = none) (ht : ty P t = some (ag, vs.length)) (hx : lk L x = some (.pointer (some ⟨b, off, none⟩))) (hy : lk L y = some (.agg vs.toArray))
    (hv : vs.all (·.oneCell') = true) (hp : Pick H (cel b l e) R) (hle : Nat.ble (off + vs.length) l.length = true) (hl : l.take off ++ vs ++ l.drop (off + vs.length) = l') (k : K ⟨L, cel b l' e :: R, S, wf⟩) : OpStep V P Q ops N o ⟨L, H, S, wf⟩ K :=
  .eff hg hd (by simp [ho, noSel]) (by simp [ho, Op.operands, known_of hx, known_of hy]) fun w hw => by
    subst hl
    have hw' := hw.perm hp.perm
    have hb : w.heap[b]? = some (.cells l.toArray e (0, 0)) := hw'.has _ (List.mem_cons_self ..)
    obtain ⟨w', hr, h1, h2, h3, h4, h5, h6⟩ := run_storea (P := P) (u := .agg vs.toArray) rfl ht hv hb (by simpa using hle)
    refine ⟨w', _, by simp [execOp, ho, ev_of hx, ev_of hy, Instr.storeAt, Instr.sureAddr, hr], ?_, k⟩
    refine WW.change (C := [cel b l e]) (R := R) (C' := [cel b _ e]) hw' (fun b' _ hn => h2 b' (by simpa [blk] using hn)) (by omega) ?_ (by simp [blk]) (fun b' hb' => .inl (by simpa [blk] using hb')) h4 h5 h6
    intro r hr
    simp only [List.mem_singleton] at hr
    subst hr
    exact h1

end
end Go.SX
