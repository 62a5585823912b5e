/- The operations, each by one rule. -/
import Derived.Test.YthmkelkefmfmgaaSxCore
import Derived.Deep.MidRow
set_option linter.unusedVariables false
set_option linter.unusedSimpArgs false
namespace Go.SX
open Go Go.RowKit

/-! ### What is known of a type -/
/-- Is it a struct or an array; how many cells. -/
def ty (P : Program) (t : TypeId) : Option (Bool × Nat) :=
  match P.underlying t, P.info? t with
  | some d, some i => some (d.isRow, i.size)
  | _, _ => none

theorem ty_spec {P : Program} {t : TypeId} {b : Bool} {n : Nat} (h : ty P t = some (b, n)) : ∃ d i, P.underlying t = some d ∧ P.info? t = some i ∧ d.isRow = b ∧ i.size = n := by
  unfold ty at h
  split at h
  · rename_i d i h1 h2
    simp at h
    exact ⟨d, i, h1, h2, h.1, h.2⟩
  · cases h

theorem run_isAgg {P : Program} {t : TypeId} {d : TypeDesc} (h : P.underlying t = some d) (w : World) : (isAgg t).run P w = .ok d.isRow w := by
  unfold isAgg
  rw [Sem.run_bind, run_underlying h w]
  cases d <;> rfl

/-- Cells that stand one behind the other. -/
def At (w : World) (b off : Nat) (cs : List Value) : Prop := ∀ j u, cs[j]? = some u → w.cell? ⟨b, off + j, none⟩ = some u

/-- The value that these cells make. -/
def val (agg : Bool) (cs : List Value) : Value := if agg then .agg cs.toArray else cs.headD undef

theorem run_load_at {P : Program} {t : TypeId} {agg : Bool} {w : World} {b off : Nat} {cs : List Value} (ht : ty P t = some (agg, cs.length)) (h1 : agg = true ∨ cs.length = 1) (h : At w b off cs) :
    (loadVar t ⟨b, off, none⟩).run P w = .ok (val agg cs) w := by
  obtain ⟨d, i, hu, hi, hd, hs⟩ := ty_spec ht
  cases agg with
  | true =>
    rw [run_loadVar_mid w b off t cs d h hu hd (by rw [hi]; simp [hs])]
    rfl
  | false =>
    rcases h1 with h1 | h1
    · cases h1
    obtain ⟨c, rfl⟩ : ∃ c, cs = [c] := List.length_eq_one_iff.1 h1
    have h0 := h 0 c rfl
    simp only [Nat.add_zero] at h0
    simp [loadVar, run_isAgg hu, hd, h0, val]

theorem At.of_blk {w : World} {b off : Nat} {c : Array Value} {e : TypeId} {fr : Nat × Nat} {cs : List Value} (h : w.heap[b]? = some (.cells c e fr)) (hc : ∀ j u, cs[j]? = some u → c[off + j]? = some u) : At w b off cs := by
  intro j u hu
  simp [World.cell?, h, hc j u hu]

theorem At.fz {S : Nat → Prop} {wf w : World} {b off : Nat} {cs : List Value} (h : At wf b off cs) (hS : S b) (hf : Fz S wf w) : At w b off cs := by
  intro j u hu
  rw [← h j u hu]
  exact World.cell?_of_block (hf b hS).2

/-! ### Pure rules -/
section
variable {V : Env} {P : Program} {Q : Exit → Act → World → Prop} {ops : Array Oper} {N : Nat} {o : Oper} {rest : List Oper} {L : List (Nat × Value)} {H : List Res} {S : Nat → Prop} {wf : World} {K : St → Prop} {st : St}

/-- What an operation yields at these slots, in every world that meets C. -/
def Ev (P : Program) (C : World → Prop) (L : List (Nat × Value)) (o : Oper) (v : Value) : Prop :=
  noSel o.op = true ∧ o.op.operands.all (known L) = true ∧ ∀ w, C w → (execOp (ev L) o).run P w = .ok (.value v) w

theorem Ev.step {d : Nat} {v : Value} (h : Ev P (WW V S wf H) L o v) (hg : o.guard = none) (hd : o.dst = some d) (hdN : Nat.blt d N = true) (k : K ⟨(d, v) :: L, H, S, wf⟩) : OpStep V P Q ops N o ⟨L, H, S, wf⟩ K :=
  OpStep.val hg hd hdN h.1 h.2.1 h.2.2 k

theorem Ev.gstep {d g t : Nat} {want b : Bool} {v : Value} (h : b = want → Ev P (WW V S wf H) L o v)
    (hg : o.guard = some (g, want)) (ht : (ops[g]?).bind (·.dst) = some t) (hL : lkp L t = some (.bool b)) (hd : o.dst = some d) (hdN : Nat.blt d N = true)
    (k : K ⟨(d, gv b want v) :: L, H, S, wf⟩) : OpStep V P Q ops N o ⟨L, H, S, wf⟩ K := by
  intro a w hs hw J hJ
  unfold Step1
  have hy := yielded_of hs ht hL
  by_cases hb : b = want
  · obtain ⟨hn, hk, h⟩ := h hb
    rw [if_pos (by simp [Region.wanted, hg, hy, hb])]
    rw [show gv b want v = v from if_pos hb] at k
    refine .inl ?_
    unfold Oper.wp
    rw [exec_ev hs hn hk, h w hw, Oper.upon_value, hd]
    exact hJ _ k _ _ (hs.put hdN v) hw
  · rw [if_neg (by simp [Region.wanted, hg, hy, hb]), hd]
    rw [show gv b want v = undef from if_neg hb] at k
    exact hJ _ k _ _ (hs.put hdN undef) hw

/-- Both ways of a guard. -/
theorem OpStep.split {g t : Nat} {want b : Bool} (hg : o.guard = some (g, want)) (ht : (ops[g]?).bind (·.dst) = some t) (hL : lkp st.L t = some (.bool b))
    (h1 : b = want → OpStep V P Q ops N { o with guard := none } st K) {d : Nat} (hd : o.dst = some d) (hdN : Nat.blt d N = true) (h2 : b ≠ want → K ⟨(d, undef) :: st.L, st.H, st.S, st.wf⟩) : OpStep V P Q ops N o st K := by
  intro a w hs hw J hJ
  have hy := yielded_of hs ht hL
  by_cases hb : b = want
  · have := h1 hb a w hs hw J hJ
    unfold Step1 at this ⊢
    rw [if_pos (by simp [Region.wanted])] at this
    rw [if_pos (by simp [Region.wanted, hg, hy, hb])]
    exact this
  · unfold Step1
    rw [if_neg (by simp [Region.wanted, hg, hy, hb]), hd]
    exact hJ _ (h2 hb) _ _ (hs.put hdN undef) hw

/-- A guard that is known to be met. -/
theorem OpStep.on {g t : Nat} {want : Bool} (hg : o.guard = some (g, want)) (ht : (ops[g]?).bind (·.dst) = some t) (hL : lkp st.L t = some (.bool want)) (h : OpStep V P Q ops N { o with guard := none } st K) : OpStep V P Q ops N o st K := by
  intro a w hs hw J hJ
  have hy := yielded_of hs ht hL
  have := h a w hs hw J hJ
  unfold Step1 at this ⊢
  rw [if_pos (by simp [Region.wanted])] at this
  rw [if_pos (by simp [Region.wanted, hg, hy])]
  exact this
/-- A guard that is known not to be met. -/
theorem OpStep.off {g t d : Nat} {want b : Bool} (hg : o.guard = some (g, want)) (ht : (ops[g]?).bind (·.dst) = some t) (hL : lkp st.L t = some (.bool b)) (hb : (b == want) = false) (hd : o.dst = some d) (hdN : Nat.blt d N = true) (h : K ⟨(d, undef) :: st.L, st.H, st.S, st.wf⟩) : OpStep V P Q ops N o st K := by
  intro a w hs hw J hJ
  have hy := yielded_of hs ht hL
  have hb' : b ≠ want := by simpa using hb
  unfold Step1
  rw [if_neg (by simp [Region.wanted, hg, hy, hb']), hd]
  exact hJ _ h _ _ (hs.put hdN undef) hw
/-- A Bool in a slot that is known by now. -/
theorem SP.reslot {t : Nat} {b c : Bool} (hL : lkp st.L t = some (.bool b)) (hb : b = c) (h : SP V P Q ops N rest ⟨(t, .bool c) :: st.L, st.H, st.S, st.wf⟩) : SP V P Q ops N rest st := by
  intro a w hs hw
  refine h a w (hs.mono fun k v hk => ?_) hw
  unfold lkp at hk
  cases hq : Nat.beq k t with
  | true =>
    have := Nat.eq_of_beq_eq_true hq
    subst this
    rw [hq] at hk
    simp at hk
    subst hk
    subst hb
    exact hL
  | false =>
    rw [hq] at hk
    exact hk

/-! ### Tests, as propositions -/
theorem bD {p : Prop} [Decidable p] : decide p = true ↔ p := decide_eq_true_iff
theorem bE {a b : Int} : (a == b) = true ↔ a = b := beq_iff_eq
theorem bNE {a b : Int} : (a != b) = true ↔ a ≠ b := bne_iff_ne
theorem bA {x y : Bool} {p q : Prop} (h : x = true ↔ p) (k : y = true ↔ q) : (x && y) = true ↔ p ∧ q := by rw [Bool.and_eq_true, h, k]
theorem bO {x y : Bool} {p q : Prop} (h : x = true ↔ p) (k : y = true ↔ q) : (x || y) = true ↔ p ∨ q := by rw [Bool.or_eq_true, h, k]
theorem bN {x : Bool} {p : Prop} (h : x = true ↔ p) : (!x) = true ↔ ¬ p := by rw [← h]; cases x <;> simp
theorem bV {x : Bool} : x = true ↔ x = true := Iff.rfl
theorem bT {x : Bool} {p : Prop} (h : x = true ↔ p) (k : x = true) : p := h.1 k
theorem bF {x : Bool} {p : Prop} (h : x = true ↔ p) (k : x = false) : ¬ p := fun hp => by rw [h.2 hp] at k; cases k

variable {C : World → Prop}

theorem ev_mv {x : Operand} {v : Value} (ho : o.op = .move x) (hx : lk L x = some v) : Ev P C L o v :=
  ⟨by simp [ho, noSel], by simp [ho, Op.operands, known_of hx], fun w _ => by simp [execOp, ho, ev_of hx]⟩
theorem ev_as {x : Operand} {v : Value} (ho : o.op = .assign x) (hx : lk L x = some v) : Ev P C L o v :=
  ⟨by simp [ho, noSel], by simp [ho, Op.operands, known_of hx], fun w _ => by simp [execOp, ho, ev_of hx]⟩
theorem ev_pick {c x y : Operand} {b : Bool} {u v : Value} (ho : o.op = .pick c x y) (hc : lk L c = some (.bool b)) (hx : lk L x = some u) (hy : lk L y = some v) : Ev P C L o (if b then u else v) :=
  ⟨by simp [ho, noSel], by simp [ho, Op.operands, known_of hc, known_of hx, known_of hy], fun w _ => by cases b <;> simp [execOp, ho, ev_of hx, ev_of hy, ev_of hc, asBool]⟩
theorem lkg {x : Operand} {b want : Bool} {v : Value} (h : lk L x = some (gv b want v)) (hb : b = want) : lk L x = some v := by rw [h, gv, if_pos hb]
theorem ev_and {c x y : Operand} {b r : Bool} (ho : o.op = .pick c x y) (hc : lk L c = some (.bool b)) (hx : lk L x = some (gv b true (.bool r))) (hy : lk L y = some (.bool false)) : Ev P C L o (.bool (b && r)) := by
  have h := ev_pick (P := P) (C := C) ho hc hx hy
  have e : (if b then gv b true (.bool r) else .bool false) = Value.bool (b && r) := by cases b <;> rfl
  rwa [e] at h
theorem ev_or {c x y : Operand} {b r : Bool} (ho : o.op = .pick c x y) (hc : lk L c = some (.bool b)) (hx : lk L x = some (.bool true)) (hy : lk L y = some (gv b false (.bool r))) : Ev P C L o (.bool (b || r)) := by
  have h := ev_pick (P := P) (C := C) ho hc hx hy
  have e : (if b then .bool true else gv b false (.bool r)) = Value.bool (b || r) := by cases b <;> rfl
  rwa [e] at h
theorem ev_pickt {c x y : Operand} {u : Value} (ho : o.op = .pick c x y) (hc : lk L c = some (.bool true)) (hx : lk L x = some u) (hk : known L y = true) : Ev P C L o u :=
  ⟨by simp [ho, noSel], by simp [ho, Op.operands, known_of hc, known_of hx, hk], fun w _ => by simp [execOp, ho, ev_of hx, ev_of hc, asBool]⟩
theorem ev_pickf {c x y : Operand} {u : Value} (ho : o.op = .pick c x y) (hc : lk L c = some (.bool false)) (hy : lk L y = some u) (hk : known L x = true) : Ev P C L o u :=
  ⟨by simp [ho, noSel], by simp [ho, Op.operands, known_of hc, known_of hy, hk], fun w _ => by simp [execOp, ho, ev_of hy, ev_of hc, asBool]⟩
theorem ev_nil {x : Operand} {a : Addr} (ho : o.op = .nilCheck x) (hx : lk L x = some (.pointer (some a))) : Ev P C L o (.pointer (some a)) :=
  ⟨by simp [ho, noSel], by simp [ho, Op.operands, known_of hx], fun w _ => by simp [execOp, ho, ev_of hx]⟩
theorem ev_ext {x : Operand} {n : Nat} {vs : Array Value} {v : Value} (ho : o.op = .extract x n) (hx : lk L x = some (.tuple vs)) (hv : vs[n]? = some v) : Ev P C L o v :=
  ⟨by simp [ho, noSel], by simp [ho, Op.operands, known_of hx], fun w _ => by simp [execOp, ho, ev_of hx, Instr.extract, hv]⟩
theorem ev_len {x : Operand} {A : Option Addr} {n c : Nat} {t e : TypeId} (ho : o.op = .call { callee := .builtin .len, args := #[x], argTypes := #[t] }) (hu : P.underlying t = some (.slice e)) (hx : lk L x = some (.slice A n c)) : Ev P C L o (.int .i64 (n : Int)) :=
  ⟨by simp [ho, noSel], by simp [ho, Op.operands, Call.operands, known_of hx], fun w _ => by simp [execOp, ho, ev_of hx, resolve, invoke, builtin, Builtin.len_, goInt, run_underlying hu]⟩
theorem ev_lens {x : Operand} {s : ByteArray} {t : TypeId} (ho : o.op = .call { callee := .builtin .len, args := #[x], argTypes := #[t] }) (hu : P.underlying t = some .string) (hx : lk L x = some (.string s)) : Ev P C L o (.int .i64 (s.size : Int)) :=
  ⟨by simp [ho, noSel], by simp [ho, Op.operands, Call.operands, known_of hx], fun w _ => by simp [execOp, ho, ev_of hx, resolve, invoke, builtin, Builtin.len_, goInt, run_underlying hu]⟩
theorem ev_cap {x : Operand} {A : Option Addr} {n c : Nat} {t e : TypeId} (ho : o.op = .call { callee := .builtin .cap, args := #[x], argTypes := #[t] }) (hu : P.underlying t = some (.slice e)) (hx : lk L x = some (.slice A n c)) : Ev P C L o (.int .i64 (c : Int)) :=
  ⟨by simp [ho, noSel], by simp [ho, Op.operands, Call.operands, known_of hx], fun w _ => by simp [execOp, ho, ev_of hx, resolve, invoke, builtin, Builtin.cap_, goInt, run_underlying hu]⟩
/-- Any operation whose value the kernel finds. -/
theorem ev_any {v : Value} (hn : noSel o.op = true) (hk : o.op.operands.all (known L) = true) (h : ∀ w, (execOp (ev L) o).run P w = .ok (.value v) w) : Ev P C L o v := ⟨hn, hk, fun w _ => h w⟩
theorem Ev.as {v v' : Value} (h : Ev P C L o v) (e : v = v') : Ev P C L o v' := e ▸ h

/-! ### Integers -/
theorem ev_bin {op : BinOp} {t t' : TypeId} {x y : Operand} {u v r : Value} (ho : o.op = .binOp op t x y t') (hx : lk L x = some u) (hy : lk L y = some v)
    (h : ∀ w, (do eqGuard op t x y u v; binOp op t u v : Sem Value).run P w = .ok r w) : Ev P C L o r :=
  ⟨by simp [ho, noSel], by simp [ho, Op.operands, known_of hx, known_of hy], fun w _ => by
    have := h w
    simp only [Sem.run_bind] at this
    simp only [execOp, ho, ev_of hx, ev_of hy, Sem.run_bind, this]
    rfl⟩


def cmpB : BinOp → Int → Int → Option Bool
  | .eql, a, b => some (a == b)
  | .neq, a, b => some (a != b)
  | .lss, a, b => some (decide (a < b))
  | .leq, a, b => some (decide (a ≤ b))
  | .gtr, a, b => some (decide (a > b))
  | .geq, a, b => some (decide (a ≥ b))
  | _, _, _ => none
theorem ev_cmp {op : BinOp} {t t' : TypeId} {x y : Operand} {k : IntKind} {a b : Int} {r : Bool} (ho : o.op = .binOp op t x y t') (hx : lk L x = some (.int k a)) (hy : lk L y = some (.int k b)) (hr : cmpB op a b = some r) : Ev P C L o (.bool r) :=
  ev_bin ho hx hy (fun w => by cases op <;> simp [cmpB] at hr <;> subst hr <;> simp [eqGuard, binOp, Op.intCmp, pure])
/-- Sums and the like, as they wrap. -/
def arB : BinOp → IntKind → Int → Int → Option Int
  | .add, k, a, b => some (k.wrap (a + b))
  | .sub, k, a, b => some (k.wrap (a - b))
  | .mul, k, a, b => some (k.wrap (a * b))
  | _, _, _, _ => none
theorem ev_ar {op : BinOp} {t t' : TypeId} {x y : Operand} {k : IntKind} {a b r : Int} (ho : o.op = .binOp op t x y t') (hx : lk L x = some (.int k a)) (hy : lk L y = some (.int k b)) (hr : arB op k a b = some r) : Ev P C L o (.int k r) :=
  ev_bin ho hx hy (fun w => by cases op <;> simp [arB] at hr <;> subst hr <;> simp [eqGuard, binOp, Op.intArith, pure])
theorem wrap_in {n : Int} (h1 : -9223372036854775808 ≤ n) (h2 : n ≤ 9223372036854775807) : IntKind.i64.wrap n = n := by
  simp only [IntKind.wrap, IntKind.bits, IntKind.signed, Bool.true_and]
  split <;> simp at * <;> omega
theorem ev_add {t t' : TypeId} {x y : Operand} {a b r : Int} (ho : o.op = .binOp .add t x y t') (hx : lk L x = some (.int .i64 a)) (hy : lk L y = some (.int .i64 b)) (hr : a + b = r) (h1 : -9223372036854775808 ≤ r) (h2 : r ≤ 9223372036854775807) : Ev P C L o (.int .i64 r) :=
  ev_ar ho hx hy (by simp only [arB]; rw [hr, wrap_in h1 h2])
theorem ev_sub {t t' : TypeId} {x y : Operand} {a b r : Int} (ho : o.op = .binOp .sub t x y t') (hx : lk L x = some (.int .i64 a)) (hy : lk L y = some (.int .i64 b)) (hr : a - b = r) (h1 : -9223372036854775808 ≤ r) (h2 : r ≤ 9223372036854775807) : Ev P C L o (.int .i64 r) :=
  ev_ar ho hx hy (by simp only [arB]; rw [hr, wrap_in h1 h2])
theorem ev_mul {t t' : TypeId} {x y : Operand} {a b r : Int} (ho : o.op = .binOp .mul t x y t') (hx : lk L x = some (.int .i64 a)) (hy : lk L y = some (.int .i64 b)) (hr : a * b = r) (h1 : -9223372036854775808 ≤ r) (h2 : r ≤ 9223372036854775807) : Ev P C L o (.int .i64 r) :=
  ev_ar ho hx hy (by simp only [arB]; rw [hr, wrap_in h1 h2])
theorem ev_quo {t t' : TypeId} {x y : Operand} {k : IntKind} {a b : Int} (ho : o.op = .binOp .quo t x y t') (hx : lk L x = some (.int k a)) (hy : lk L y = some (.int k b)) (h0 : b ≠ 0) : Ev P C L o (.int k (k.wrap (a.tdiv b))) :=
  ev_bin ho hx hy (fun w => by simp [eqGuard, binOp, Op.intDiv, pure, h0])
theorem ev_rem {t t' : TypeId} {x y : Operand} {k : IntKind} {a b : Int} (ho : o.op = .binOp .rem t x y t') (hx : lk L x = some (.int k a)) (hy : lk L y = some (.int k b)) (h0 : b ≠ 0) : Ev P C L o (.int k (a.tmod b)) :=
  ev_bin ho hx hy (fun w => by simp [eqGuard, binOp, Op.intDiv, pure, h0])
def scB : BinOp → ByteArray → ByteArray → Option Bool
  | .eql, a, b => some (a.toList == b.toList)
  | .neq, a, b => some (!(a.toList == b.toList))
  | _, _, _ => none
theorem ev_scmp {op : BinOp} {t t' : TypeId} {x y : Operand} {a b : ByteArray} {r : Bool} (ho : o.op = .binOp op t x y t') (hx : lk L x = some (.string a)) (hy : lk L y = some (.string b)) (hr : scB op a b = some r) : Ev P C L o (.bool r) :=
  ev_bin ho hx hy (fun w => by cases op <;> simp only [scB, Option.some.injEq, reduceCtorEq] at hr <;> subst hr <;> simp [eqGuard, binOp, Op.stringOp, pure])
theorem ev_sadd {t t' : TypeId} {x y : Operand} {a b : ByteArray} (ho : o.op = .binOp .add t x y t') (hx : lk L x = some (.string a)) (hy : lk L y = some (.string b)) (h : ((a.size + b.size : Nat) : Int) ≤ 9223372036854775807) : Ev P C L o (.string (a ++ b)) :=
  ev_bin ho hx hy (fun w => by
    have h' : ¬ (((a.size + b.size : Nat) : Int) > IntKind.i64.max) := by simp only [IntKind.max, IntKind.bits, IntKind.signed]; simp; omega
    simp only [eqGuard, binOp, Op.stringOp, Sem.run_bind]
    rw [if_neg h']
    simp)
theorem ev_not {t : TypeId} {x : Operand} {b : Bool} (ho : o.op = .unOp .not t x) (hx : lk L x = some (.bool b)) : Ev P C L o (.bool (!b)) :=
  ⟨by simp [ho, noSel], by simp [ho, Op.operands, known_of hx], fun w _ => by simp [execOp, ho, ev_of hx, Op.unary]⟩

theorem ev_neg {t : TypeId} {x : Operand} {a : Int} (ho : o.op = .unOp .neg t x) (hx : lk L x = some (.int .i64 a)) (h1 : -9223372036854775808 ≤ -a) (h2 : -a ≤ 9223372036854775807) : Ev P C L o (.int .i64 (-a)) :=
  ⟨by simp [ho, noSel], by simp [ho, Op.operands, known_of hx], fun w _ => by simp [execOp, ho, ev_of hx, Op.unary, Op.intArith, wrap_in h1 h2]⟩
/-- A number in another kind. -/
theorem ev_cv {s t : TypeId} {x : Operand} {k j : IntKind} {a r : Int} (ho : o.op = .convert s t x) (hs : P.underlying s = some (.int k)) (ht : P.underlying t = some (.int j)) (hx : lk L x = some (.int k a)) (hr : j.wrap a = r) : Ev P C L o (.int j r) :=
  ⟨by simp [ho, noSel], by simp [ho, Op.operands, known_of hx], fun w _ => by simp [execOp, ho, ev_of hx, convert, run_underlying hs, run_underlying ht, Conv.intToInt, hr]⟩
theorem ev_min {x y : Operand} {a b : Int} {t : Array TypeId} (ho : o.op = .call { callee := .builtin .min, args := #[x, y], argTypes := t }) (hx : lk L x = some (.int .i64 a)) (hy : lk L y = some (.int .i64 b)) : Ev P C L o (.int .i64 (min a b)) :=
  ⟨by simp [ho, noSel], by simp [ho, Op.operands, Call.operands, known_of hx, known_of hy], fun w _ => by
    simp [execOp, ho, ev_of hx, ev_of hy, resolve, invoke, builtin, Builtin.min_, Builtin.min2]
    rw [Int.min_def]
    split <;> split <;> omega⟩

/-! ### Addresses -/
/-- Where field i of struct type s begins (a field that has a cell). -/
def fo (P : Program) (s : TypeId) (i : Nat) : Option Nat :=
  match P.underlying s with
  | some (.struct fields) => match fields[i]? with
    | some f => match P.info? f.type with
      | some inf => if inf.size = 0 then none else some f.offset
      | none => none
    | none => none
  | _ => none
theorem add_at (b off n : Nat) : (⟨b, off, none⟩ : Addr).add n = ⟨b, off + n, none⟩ := by unfold Addr.add; split <;> simp_all
theorem ev_fa {s : TypeId} {x : Operand} {i b off f : Nat} (ho : o.op = .fieldAddr s x i) (hf : fo P s i = some f) (hx : lk L x = some (.pointer (some ⟨b, off, none⟩))) {r : Nat} (hr : off + f = r) : Ev P C L o (.pointer (some ⟨b, r, none⟩)) :=
  ⟨by simp [ho, noSel], by simp [ho, Op.operands, known_of hx], fun w _ => by
    subst hr
    unfold fo at hf
    split at hf
    · rename_i fields hu
      split at hf
      · rename_i fd hfd
        split at hf
        · rename_i inf hinf
          split at hf
          · cases hf
          · rename_i hz
            simp at hf
            simp [execOp, ho, ev_of hx, Instr.fieldAt, Instr.sureAddr, run_underlying hu, hfd, fieldPlace, sizeOf, typeInfo, hinf, hz, add_at, hf]
        · cases hf
      · cases hf
    · cases hf⟩
/-- The address of element i of a slice. -/
theorem ev_ia {t e : TypeId} {x y : Operand} {b off n c sz : Nat} {k : IntKind} {i : Int} {ag : Bool} (ho : o.op = .indexAddr t x y) (hu : P.underlying t = some (.slice e)) (hs : ty P e = some (ag, sz))
    (hx : lk L x = some (.slice (some ⟨b, off, none⟩) n c)) (hy : lk L y = some (.int k i)) (h0 : 0 ≤ i) (h1 : i < (n : Int)) : Ev P C L o (.pointer (some ⟨b, off + i.toNat * sz, none⟩)) :=
  ⟨by simp [ho, noSel], by simp [ho, Op.operands, known_of hx, known_of hy], fun w _ => by
    obtain ⟨d, inf, _, hi, _, rfl⟩ := ty_spec hs
    simp [execOp, ho, ev_of hx, ev_of hy, Instr.indexAt, asIntOf, run_underlying hu, sizeOf, typeInfo, hi, h0, h1, add_at]⟩
theorem ev_ld1 {t : TypeId} {x : Operand} {b off : Nat} {v : Value} (ho : o.op = .load t x) (ht : ty P t = some (false, 1)) (hx : lk L x = some (.pointer (some ⟨b, off, none⟩)))
    (h : ∀ w, C w → At w b off [v]) : Ev P C L o v :=
  ⟨by simp [ho, noSel], by simp [ho, Op.operands, known_of hx], fun w hw => by
    have := run_load_at (P := P) (w := w) (cs := [v]) ht (.inr rfl) (h w hw)
    simp [execOp, ho, ev_of hx, Instr.loadAt, Instr.sureAddr, this, val]⟩
theorem ev_lda {t : TypeId} {x : Operand} {b off : Nat} {cs : List Value} (ho : o.op = .load t x) (hx : lk L x = some (.pointer (some ⟨b, off, none⟩)))
    (h : ∀ w, C w → At w b off cs) (ht : ty P t = some (true, cs.length)) : Ev P C L o (.agg cs.toArray) :=
  ⟨by simp [ho, noSel], by simp [ho, Op.operands, known_of hx], fun w hw => by
    have := run_load_at (P := P) (w := w) ht (.inl rfl) (h w hw)
    simp [execOp, ho, ev_of hx, Instr.loadAt, Instr.sureAddr, this, val]⟩
/-- A loaded variable. -/
theorem ev_ld {t : TypeId} {x : Operand} {b off : Nat} {agg : Bool} {cs : List Value} (ho : o.op = .load t x) (ht : ty P t = some (agg, cs.length)) (h1 : (agg || cs.length == 1) = true) (hx : lk L x = some (.pointer (some ⟨b, off, none⟩)))
    (h : ∀ w, C w → At w b off cs) : Ev P C L o (val agg cs) :=
  ⟨by simp [ho, noSel], by simp [ho, Op.operands, known_of hx], fun w hw => by
    have := run_load_at (P := P) (w := w) ht (by simpa using h1) (h w hw)
    simp [execOp, ho, ev_of hx, Instr.loadAt, Instr.sureAddr, this]⟩

theorem At.one {w : World} {b off : Nat} {v : Value} (h : w.cell? ⟨b, off, none⟩ = some v) : At w b off [v] := by
  intro j u hu
  cases j with
  | zero => simp at hu; subst hu; simpa using h
  | succ j => simp at hu
/-- One cell of a block whose cells are written out. -/
theorem At.own1 {b off : Nat} {c : Array Value} {e : TypeId} {fr : Nat × Nat} {v : Value} (i : Nat) (hi : H[i]? = some (blk b (.cells c e fr))) (hc : c[off]? = some v) : ∀ w, WW V S wf H w → At w b off [v] :=
  fun w hw => .one (by simp [World.cell?, show w.heap[b]? = _ from hw.has _ (List.mem_of_getElem? hi), hc])
/-- Some cells of it. -/
theorem At.own {b off : Nat} {c : Array Value} {e : TypeId} {fr : Nat × Nat} {cs : List Value} (i : Nat) (hi : H[i]? = some (blk b (.cells c e fr))) (hc : (c.toList.drop off).take cs.length = cs) : ∀ w, WW V S wf H w → At w b off cs :=
  fun w hw => At.of_blk (hw.has _ (List.mem_of_getElem? hi)) (fun j u hu => by
    rw [← hc] at hu
    rw [List.getElem?_take] at hu
    split at hu
    · rw [List.getElem?_drop] at hu
      simpa using hu
    · cases hu)
theorem At.frz {b off : Nat} {cs : List Value} (h : At wf b off cs) (hS : S b) : ∀ w, WW V S wf H w → At w b off cs := fun w hw => h.fz hS hw.fz

end
end Go.SX
