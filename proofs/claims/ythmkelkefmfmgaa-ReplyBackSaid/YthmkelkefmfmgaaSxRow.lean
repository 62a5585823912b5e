/- Rows: slices that are owned, and their element types. -/
import Derived.Test.YthmkelkefmfmgaaSxMem
import Derived.Laws.MakeOwn
set_option linter.unusedVariables false
set_option linter.unusedSimpArgs false
namespace Go.SX
open Go Go.RowKit

/-- How an element is written as cells. -/
structure Enc (α : Type) where
  sz : Nat
  enc : α → List Value
  len : ∀ x, (enc x).length = sz
  one : ∀ x, ∀ u ∈ enc x, u.oneCell' = true
  pos : 0 < sz

def flat {α : Type} (E : Enc α) (l : List α) : List Value := l.flatMap E.enc

theorem flat_nil {α : Type} (E : Enc α) : flat E [] = [] := rfl
theorem flat_cons {α : Type} (E : Enc α) (x : α) (l : List α) : flat E (x :: l) = E.enc x ++ flat E l := by simp [flat]
theorem flat_append {α : Type} (E : Enc α) (l m : List α) : flat E (l ++ m) = flat E l ++ flat E m := by simp [flat]
theorem flat_length {α : Type} (E : Enc α) (l : List α) : (flat E l).length = l.length * E.sz := by
  induction l with
  | nil => simp [flat]
  | cons x l ih => rw [flat_cons, List.length_append, ih, E.len, List.length_cons, Nat.succ_mul]; omega
theorem flat_one {α : Type} (E : Enc α) (l : List α) : ∀ u ∈ flat E l, u.oneCell' = true := by
  intro u hu
  obtain ⟨x, _, hx⟩ := List.mem_flatMap.1 hu
  exact E.one x u hx
theorem flat_take {α : Type} (E : Enc α) (l : List α) (n : Nat) : (flat E l).take (n * E.sz) = flat E (l.take n) := by
  induction l generalizing n with
  | nil => simp [flat]
  | cons x l ih =>
    cases n with
    | zero => simp [flat]
    | succ n =>
      rw [List.take_succ_cons, flat_cons, flat_cons, ← ih, Nat.succ_mul, Nat.add_comm, List.take_append, List.take_of_length_le (by rw [E.len]; omega), E.len]
      congr 2
      omega
theorem flat_drop {α : Type} (E : Enc α) (l : List α) (n : Nat) : (flat E l).drop (n * E.sz) = flat E (l.drop n) := by
  induction l generalizing n with
  | nil => simp [flat]
  | cons x l ih =>
    cases n with
    | zero => simp [flat]
    | succ n =>
      rw [List.drop_succ_cons, flat_cons, ← ih, Nat.succ_mul, Nat.add_comm, List.drop_append, E.len, List.drop_eq_nil_of_le (by rw [E.len]; omega), List.nil_append]
      congr 1
      omega
theorem flat_get {α : Type} (E : Enc α) (l : List α) (i : Nat) (x : α) (h : l[i]? = some x) (j : Nat) (u : Value) (hu : (E.enc x)[j]? = some u) : (flat E l)[i * E.sz + j]? = some u := by
  have hi : i < l.length := (List.getElem?_eq_some_iff.1 h).1
  have hx : l[i] = x := (List.getElem?_eq_some_iff.1 h).2
  rw [← List.getElem?_drop, flat_drop, List.drop_eq_getElem_cons hi, hx, flat_cons, List.getElem?_append_left (by exact (List.getElem?_eq_some_iff.1 hu).1)]
  exact hu

/-- Elements of one cell. -/
def Enc.scalar {α : Type} (f : α → Value) (h : ∀ x, (f x).oneCell' = true) : Enc α where
  sz := 1
  enc x := [f x]
  len _ := rfl
  one x u hu := by simp only [List.mem_singleton] at hu; subst hu; exact h x
  pos := by decide
def eI (k : IntKind) : Enc Int := .scalar (.int k) (fun _ => rfl)
def eB : Enc Bool := .scalar .bool (fun _ => rfl)
def eS : Enc ByteArray := .scalar .string (fun _ => rfl)
/-- Elements that are values themselves (slices, pointers), of one cell. -/
def Sl := { v : Value // v.oneCell' = true }
def eV : Enc Sl := .scalar (·.1) (·.2)

/-- Element i of a list. -/
def gt {α : Type} [Inhabited α] (l : List α) (i : Int) : α := l.getD i.toNat default
theorem gt_at {α : Type} [Inhabited α] {l : List α} {i : Int} (h0 : 0 ≤ i) (h1 : i < (l.length : Int)) : l[i.toNat]? = some (gt l i) := by
  have : i.toNat < l.length := by omega
  simp [gt, List.getD_eq_getElem?_getD, List.getElem?_eq_getElem this]

/-- A slice whose elements are frozen. -/
def Fr {α : Type} (E : Enc α) (S : Nat → Prop) (wf : World) (A : Option Addr) (l : List α) : Prop :=
  l.length ≤ 140737488355328 ∧ (l = [] ∨ ∃ b off, A = some ⟨b, off, none⟩ ∧ S b ∧ ∀ i x, l[i]? = some x → At wf b (off + i * E.sz) (E.enc x))
theorem Fr.nil {α : Type} (E : Enc α) (S : Nat → Prop) (wf : World) (A : Option Addr) : Fr E S wf A ([] : List α) := ⟨by simp, .inl rfl⟩
theorem Fr.len {α : Type} {E : Enc α} {S : Nat → Prop} {wf : World} {A : Option Addr} {l : List α} (h : Fr E S wf A l) : l.length ≤ 140737488355328 := h.1
theorem Fr.form {α : Type} {E : Enc α} {S : Nat → Prop} {wf : World} {A : Option Addr} {l : List α} (h : Fr E S wf A l) (hl : 0 < l.length) : ∃ b off, A = some ⟨b, off, none⟩ := by
  rcases h.2 with rfl | ⟨b, off, h, _⟩
  · simp at hl
  · exact ⟨b, off, h⟩
theorem At.ext {S S' : Nat → Prop} {wf wf' : World} {b off : Nat} {cs : List Value} (h : At wf b off cs) (hb : S b) (hx : Ext S wf S' wf') : At wf' b off cs := by
  intro j u hu
  rw [← h j u hu]
  exact World.cell?_of_block (hx b hb).2.2
theorem Fr.ext {α : Type} {E : Enc α} {S S' : Nat → Prop} {wf wf' : World} {A : Option Addr} {l : List α} (h : Fr E S wf A l) (hx : Ext S wf S' wf') : Fr E S' wf' A l := by
  refine ⟨h.1, h.2.imp id ?_⟩
  rintro ⟨b, off, h1, h2, h3⟩
  exact ⟨b, off, h1, (hx b h2).1, fun i x hi => (h3 i x hi).ext h2 hx⟩

/-! ### A row that is owned, its elements told -/
def rw_ {α : Type} (E : Enc α) (e : Nat) (v : Value) (l : List α) : Res := row e E.sz v l.length (flat E l)

theorem rw_holds {α : Type} {E : Enc α} {e : Nat} {v : Value} {l : List α} {w : World} : (rw_ E e v l).holds w ↔ (v = .slice none 0 0 ∧ l = []) ∨
    ∃ g cap cur, v = .slice (some ⟨g, 0, none⟩) l.length cap ∧ w.heap[g]? = some (.cells cur e (0, 0)) ∧ l.length ≤ cap ∧ cap ≤ maxLen ∧ cur.size = cap * E.sz ∧ cur.toList.take (l.length * E.sz) = flat E l := by
  constructor
  · rintro ⟨h1, h2 | ⟨g, cap, cur, h⟩⟩
    · exact .inl ⟨h2.1, List.eq_nil_of_length_eq_zero h2.2⟩
    · exact .inr ⟨g, cap, cur, h.1, h.2.2.1, h.2.2.2⟩
  · rintro (⟨h1, rfl⟩ | ⟨g, cap, cur, h⟩)
    · exact ⟨by simp [flat], .inl ⟨h1, rfl⟩⟩
    · exact ⟨flat_length E l, .inr ⟨g, cap, cur, h.1, Nat.zero_le _, h.2.1, h.2.2⟩⟩

/-- The cells of element i. -/
theorem At.row {α : Type} {E : Enc α} {e g : Nat} {A : Value} {n c : Nat} {l : List α} {w : World} (h : (rw_ E e (.slice (some ⟨g, 0, none⟩) n c) l).holds w) {i : Nat} {x : α} (hx : l[i]? = some x) : At w g (0 + i * E.sz) (E.enc x) := by
  intro j u hu
  have hc := h.cells (g := g) rfl (i * E.sz + j) u (flat_get E l i x hx j u hu)
  rw [add_at] at hc
  rw [Nat.zero_add]
  rwa [Nat.zero_add] at hc

section
variable {V : Env} {P : Program} {Q : Exit → Act → World → Prop} {ops : Array Oper} {N : Nat} {o : Oper} {rest : List Oper} {L : List (Nat × Value)} {H R : List Res} {S : Nat → Prop} {wf : World} {K : St → Prop} {st : St}

theorem At.own_row {α : Type} {E : Enc α} {e g n c : Nat} {l : List α} (k : Nat) (hk : H[k]? = some (rw_ E e (.slice (some ⟨g, 0, none⟩) n c) l)) {i : Nat} {x : α} (hx : l[i]? = some x) : ∀ w, WW V S wf H w → At w g (0 + i * E.sz) (E.enc x) :=
  fun w hw => At.row (A := .bool true) (hw.has _ (List.mem_of_getElem? hk)) hx

theorem At.elem1 {C : World → Prop} {b off : Nat} {cs : List Value} {v : Value} (h : ∀ w, C w → At w b off cs) (k : Nat) (hk : cs[k]? = some v) : ∀ w, C w → At w b (off + k) [v] :=
  fun w hw => .one (h w hw k v hk)
theorem At.elemn {C : World → Prop} {b off : Nat} {cs ds : List Value} (h : ∀ w, C w → At w b off cs) (k : Nat) (hk : (cs.drop k).take ds.length = ds) : ∀ w, C w → At w b (off + k) ds :=
  fun w hw j u hu => by
    rw [← hk, List.getElem?_take] at hu
    split at hu
    · rw [List.getElem?_drop] at hu
      have := h w hw (k + j) u hu
      rw [Nat.add_assoc]
      exact this
    · cases hu
theorem At.whole {b : Nat} {l : List Value} {e : TypeId} (i : Nat) (hi : H[i]? = some (cel b l e)) : ∀ w, WW V S wf H w → At w b 0 l :=
  fun w hw => At.of_blk (hw.has _ (List.mem_of_getElem? hi)) (fun j u hu => by simpa using hu)
theorem Fr.at_ {α : Type} [Inhabited α] {E : Enc α} {b off : Nat} {l : List α} {i : Int} (h : Fr E S wf (some ⟨b, off, none⟩) l) (h0 : 0 ≤ i) (h1 : i < (l.length : Int)) : ∀ w, WW V S wf H w → At w b (off + i.toNat * E.sz) (E.enc (gt l i)) := fun w hw => by
  rcases h.2 with rfl | ⟨b', off', h2, hS, h3⟩
  · simp at h1; omega
  · cases h2
    exact (h3 _ _ (gt_at h0 h1)).fz hS hw.fz
theorem Fr.at_B {α : Type} [Inhabited α] {E : Enc α} {b off : Nat} {l : List α} {i : Int} {cs : List (Nat × (World → Prop))} {n : Nat} {ops : Array Oper} {wt : Array Oper → Nat → Nat → Bool} (h : Fr E S wf (some ⟨b, off, none⟩) l) (h0 : 0 ≤ i) (h1 : i < (l.length : Int)) : ∀ w, (Fz S wf w ∧ ∀ c ∈ cs, wt ops c.1 n = true → c.2 w) → At w b (off + i.toNat * E.sz) (E.enc (gt l i)) := fun w hw => by
  rcases h.2 with rfl | ⟨b', off', h2, hS, h3⟩
  · simp at h1; omega
  · cases h2
    exact (h3 _ _ (gt_at h0 h1)).fz hS hw.1
theorem At.celB {l cs : List Value} {b off e : Nat} {ks : List (Nat × (World → Prop))} {n : Nat} {wt : Array Oper → Nat → Nat → Bool} (h : (cel b l e).holds wf) (hS : S b) (hc : (l.drop off).take cs.length = cs) : ∀ w, (Fz S wf w ∧ ∀ c ∈ ks, wt ops c.1 n = true → c.2 w) → At w b off cs :=
  fun w hw => (At.of_blk (w := wf) h (fun j u hu => by
    rw [← hc] at hu
    rw [List.getElem?_take] at hu
    split at hu
    · rw [List.getElem?_drop] at hu
      simpa using hu
    · cases hu)).fz hS hw.1

/-- What memory tells is known. -/
theorem OpStep.know {φ : Prop} (h : ∀ w, WW V st.S st.wf st.H w → φ) (k : φ → OpStep V P Q ops N o st K) : OpStep V P Q ops N o st K :=
  fun a w hs hw => k (h w hw) a w hs hw
theorem SP.know {φ : Prop} (h : ∀ w, WW V st.S st.wf st.H w → φ) (k : φ → SP V P Q ops N rest st) : SP V P Q ops N rest st := fun a w hs hw => k (h w hw) a w hs hw
theorem SC.know {c : Code} {φ : Prop} (h : ∀ w, WW V st.S st.wf st.H w → φ) (k : φ → SC V P Q N c st) : SC V P Q N c st := fun a w hs hw => k (h w hw) a w hs hw

/-- An owned row of some elements: a block of its own. -/
theorem row_form {α : Type} {E : Enc α} {e : Nat} {v : Value} {l : List α} (k : Nat) (hk : H[k]? = some (rw_ E e v l)) (hl : 0 < l.length) : ∀ w, WW V S wf H w → ∃ g c, v = .slice (some ⟨g, 0, none⟩) l.length c ∧ l.length ≤ c ∧ c ≤ maxLen := fun w hw => by
  rcases rw_holds.1 (hw.has _ (List.mem_of_getElem? hk)) with ⟨_, rfl⟩ | ⟨g, cap, cur, h1, _, h2, h3, _⟩
  · simp at hl
  · exact ⟨g, cap, h1, h2, h3⟩
/-- Any owned row: its length. -/
theorem row_len {α : Type} {E : Enc α} {e : Nat} {v : Value} {l : List α} (k : Nat) (hk : H[k]? = some (rw_ E e v l)) : ∀ w, WW V S wf H w → ∃ A c, v = .slice A l.length c ∧ l.length ≤ c ∧ c ≤ maxLen := fun w hw => by
  rcases rw_holds.1 (hw.has _ (List.mem_of_getElem? hk)) with ⟨h1, rfl⟩ | ⟨g, cap, cur, h1, _, h2, h3, _⟩
  · exact ⟨none, 0, h1, by simp, by simp [maxLen]⟩
  · exact ⟨_, cap, h1, h2, h3⟩

/-- A literal slice: its parts are laid into a new row. -/
theorem st_lit {α : Type} (E : Enc α) {t e : TypeId} {n : Nat} {parts : Array (Nat × Operand)} {l : List α} {d : Nat} (ho : o.op = .buildSlice t n parts) (hg : o.guard = none) (hd : o.dst = some d) (hdN : Nat.blt d N = true)
    (hk : o.op.operands.all (known L) = true) (hl : l.length = n) (hm : Nat.ble n 100000 = true)
    (h : ∀ w, (Instr.buildSlice t n (parts.map fun p => (p.1, ev L p.2))).run P w = .ok (.slice (some ⟨w.heap.size, 0, none⟩) n n) (w.alloc (.cells (flat E l).toArray e (0, 0))))
    (k : ∀ b, K ⟨(d, .slice (some ⟨b, 0, none⟩) n n) :: L, rw_ E e (.slice (some ⟨b, 0, none⟩) n n) l :: H, S, wf⟩) : OpStep V P Q ops N o ⟨L, H, S, wf⟩ K :=
  .act hg hd hdN (by simp [ho, noSel]) hk fun w hw => by
    have hm' : n ≤ 100000 := Nat.le_of_ble_eq_true hm
    refine ⟨_, _, _, by simp only [execOp, ho, Sem.run_bind, h w]; rfl, ?_, k w.heap.size⟩
    refine WW.change (C := []) (R := H) (C' := [rw_ E e (.slice (some ⟨w.heap.size, 0, none⟩) n n) l]) hw (fun b hb _ => Below.heap_alloc w _ b hb) (by simp) ?_ (by simp [rw_, row, Value.ownBlock]) (fun b hb => .inr ?_) rfl rfl rfl
    · intro r hr
      simp only [List.mem_singleton] at hr
      subst hr
      refine rw_holds.2 (.inr ⟨w.heap.size, n, _, by rw [hl], heap_alloc_new w _, by omega, by simp only [maxLen]; omega, by simp [flat_length, hl], ?_⟩)
      rw [List.take_of_length_le (by simp [flat_length])]
    · simp [rw_, row, Value.ownBlock] at hb
      omega

/-- append of what can be read to a row that is owned. -/
theorem st_append {α : Type} {E : Enc α} {t e : TypeId} {x y : Operand} {v : Value} {l m : List α} {d : Nat} {z : Value} {bytes : Nat} {b off n c : Nat} (ho : o.op = .call { callee := .builtin .append, args := #[x, y], argTypes := #[t, t] }) (hg : o.guard = none) (hd : o.dst = some d) (hdN : Nat.blt d N = true)
    (ht : P.underlying t = some (.slice e)) (hi : (P.info? e).map (fun i => (i.zero, i.size, i.bytes)) = some (some z, E.sz, bytes)) (hz : z.cells.size = E.sz)
    (hx : lk L x = some v) (hy : lk L y = some (.slice (some ⟨b, off, none⟩) n c)) (hp : Pick H (rw_ E e v l) R) (hn : m.length = n)
    (hm : ∀ w, WW V S wf H w → At w b off (flat E m)) (h63 : l.length + n ≤ maxLen) (hb : (l.length + n) * bytes ≤ 140737488355328)
    (k : ∀ v', K ⟨(d, v') :: L, rw_ E e v' (l ++ m) :: R, S, wf⟩) : OpStep V P Q ops N o ⟨L, H, S, wf⟩ K :=
  .act hg hd hdN (by simp [ho, noSel]) (by simp [ho, Op.operands, Call.operands, known_of hx, known_of hy]) fun w hw => by
    obtain ⟨i, hi, hq⟩ := Option.map_eq_some_iff.1 hi
    simp only [Prod.mk.injEq] at hq
    have hw' := hw.perm hp.perm
    have hown : w.ownsRow 0 e E.sz v l.length (flat E l) := hw'.has _ (List.mem_cons_self ..)
    obtain ⟨v', w', hr, h1, h2, _, h4⟩ := run_append_own_at (P := P) w 0 t o.type e i z E.sz bytes ht hi hq.1 hq.2.1 hq.2.2 hz E.pos v l.length (flat E l) hown ⟨b, off, none⟩ n c (flat E m) (by rw [flat_length, hn])
      (fun j u hu => by rw [add_at]; exact hm w hw j u hu) (flat_one E m) h63 hb (Nat.zero_le _)
    refine ⟨v', w', _, by simp only [execOp, ho, resolve, invoke, builtin, Sem.run_bind, Sem.run_pure, Result.andThen_ok, List.map_toArray, List.map_cons, List.map_nil, ev_of hx, ev_of hy, hr], ?_, k v'⟩
    refine WW.change (C := [rw_ E e v l]) (R := R) (C' := [rw_ E e v' (l ++ m)]) hw' (fun b' hb' hn' => h2.block b' hb' (fun e => hn' ?_)) h2.size ?_ ?_ ?_ h2.os h2.tape h2.output
    · simp [rw_, row, ← e]
    · intro r hr
      simp only [List.mem_singleton] at hr
      subst hr
      show w'.ownsRow 0 e E.sz v' (l ++ m).length (flat E (l ++ m))
      rw [List.length_append, hn, flat_append]
      exact h1
    · simp [rw_, row]
      cases v'.ownBlock <;> simp
    · intro b' hb'
      simp [rw_, row] at hb' ⊢
      rcases h4 with h4 | h4
      · exact .inl (by rw [← h4]; exact hb')
      · rw [h4] at hb'
        simp at hb'
        omega

end
end Go.SX
