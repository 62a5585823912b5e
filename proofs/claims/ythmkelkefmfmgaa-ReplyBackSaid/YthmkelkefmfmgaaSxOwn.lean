/- Slices by their addresses; elements read and written; append. -/
import Derived.Test.YthmkelkefmfmgaaSxSlice
set_option linter.unusedVariables false
set_option linter.unusedSimpArgs false
namespace Go.SX
open Go Go.RowKit

def ab (A : Option Addr) : Nat := match A with | some a => a.block | none => 0
def ao (A : Option Addr) : Nat := match A with | some a => a.off | none => 0

theorem Fr.adr {α : Type} {E : Enc α} {S : Nat → Prop} {wf : World} {A : Option Addr} {l : List α} (h : Fr E S wf A l) {i : Int} (h0 : 0 ≤ i) (h1 : i < (l.length : Int)) : A = some ⟨ab A, ao A, none⟩ := by
  obtain ⟨b, off, rfl⟩ := h.form (by omega)
  rfl

section
variable {V : Env} {P : Program} {Q : Exit → Act → World → Prop} {ops : Array Oper} {N : Nat} {o : Oper} {rest : List Oper} {L : List (Nat × Value)} {H R : List Res} {S : Nat → Prop} {wf : World} {K : St → Prop} {st : St} {C : World → Prop}

theorem row_adr {α : Type} {E : Enc α} {e n c : Nat} {A : Option Addr} {l : List α} (k : Nat) (hk : H[k]? = some (rw_ E e (.slice A n c) l)) {i : Int} (h0 : 0 ≤ i) (h1 : i < (l.length : Int)) : ∀ w, WW V S wf H w → A = some ⟨ab A, ao A, none⟩ := fun w hw => by
  rcases rw_holds.1 (hw.has _ (List.mem_of_getElem? hk)) with ⟨_, rfl⟩ | ⟨g, cap, cur, h1', _⟩
  · simp at h1; omega
  · injection h1' with h1' _ _
    subst h1'
    rfl

/-- The address of element i of a slice. -/
theorem ev_ix {t e : TypeId} {x y : Operand} {A : Option Addr} {n c sz : Nat} {k : IntKind} {i : Int} {ag : Bool} (ho : o.op = .indexAddr t x y) (hu : P.underlying t = some (.slice e)) (hs : ty P e = some (ag, sz))
    (hx : lk L x = some (.slice A n c)) (hy : lk L y = some (.int k i)) (h0 : 0 ≤ i) (h1 : i < (n : Int)) (hA : ∀ w, C w → A = some ⟨ab A, ao A, none⟩) : Ev P C L o (.pointer (some ⟨ab A, ao A + i.toNat * sz, none⟩)) :=
  ⟨by simp [ho, noSel], by simp [ho, Op.operands, known_of hx, known_of hy], fun w hw => by
    obtain ⟨d, inf, _, hi, _, rfl⟩ := ty_spec hs
    have := hA w hw
    revert hx
    rw [this]
    intro hx
    simp [execOp, ho, ev_of hx, ev_of hy, Instr.indexAt, asIntOf, run_underlying hu, sizeOf, typeInfo, hi, h0, h1, add_at, ab, ao]⟩

/-- The cells of an element of a frozen slice. -/
theorem Fr.el {α : Type} [Inhabited α] {E : Enc α} {A : Option Addr} {l : List α} (h : Fr E S wf A l) {i : Int} (h0 : 0 ≤ i) (h1 : i < (l.length : Int)) : ∀ w, Fz S wf w → At w (ab A) (ao A + i.toNat * E.sz) (E.enc (gt l i)) := fun w hw => by
  rcases h.2 with rfl | ⟨b', off', rfl, hS, h3⟩
  · simp at h1; omega
  · exact (h3 _ _ (gt_at h0 h1)).fz hS hw
theorem At.w {b off : Nat} {cs : List Value} (h : ∀ w, Fz S wf w → At w b off cs) : ∀ w, WW V S wf H w → At w b off cs := fun w hw => h w hw.fz
theorem At.d {b off : Nat} {cs : List Value} {X : World → Prop} (h : ∀ w, Fz S wf w → At w b off cs) : ∀ w, (Fz S wf w ∧ X w) → At w b off cs := fun w hw => h w hw.1
/-- Of an owned row. -/
theorem row_el {α : Type} [Inhabited α] {E : Enc α} {e n c : Nat} {A : Option Addr} {l : List α} (k : Nat) (hk : H[k]? = some (rw_ E e (.slice A n c) l)) {i : Int} (h0 : 0 ≤ i) (h1 : i < (l.length : Int)) : ∀ w, WW V S wf H w → At w (ab A) (ao A + i.toNat * E.sz) (E.enc (gt l i)) := fun w hw => by
  have hh := hw.has _ (List.mem_of_getElem? hk)
  rcases rw_holds.1 hh with ⟨_, rfl⟩ | ⟨g, cap, cur, h1', _⟩
  · simp at h1; omega
  · injection h1' with h1' _ _
    subst h1'
    exact At.row (A := .bool true) hh (gt_at h0 h1)

/-! ### What a slice holds, for append and copy -/
/-- The cells that a slice leads to. -/
def Src (w : World) (A : Option Addr) (cs : List Value) : Prop := cs = [] ∨ ∃ b off, A = some ⟨b, off, none⟩ ∧ At w b off cs
theorem Fr.flat {α : Type} {E : Enc α} {A : Option Addr} {l : List α} (h : Fr E S wf A l) : ∀ w, Fz S wf w → Src w A (flat E l) := fun w hw => by
  rcases h.2 with rfl | ⟨b, off, rfl, hS, h3⟩
  · exact .inl rfl
  · refine .inr ⟨b, off, rfl, fun j u hu => ?_⟩
    have hlt : j < l.length * E.sz := by rw [← flat_length]; exact (List.getElem?_eq_some_iff.1 hu).1
    have hp := E.pos
    have hi : j / E.sz < l.length := Nat.div_lt_of_lt_mul (by rw [Nat.mul_comm]; exact hlt)
    have hx : l[j / E.sz]? = some l[j / E.sz] := List.getElem?_eq_getElem hi
    have hr : j % E.sz < E.sz := Nat.mod_lt _ hp
    have hj : j / E.sz * E.sz + j % E.sz = j := by rw [Nat.mul_comm]; exact Nat.div_add_mod j E.sz
    have hu2 : (E.enc l[j / E.sz])[j % E.sz]? = some ((E.enc l[j / E.sz])[j % E.sz]'(by rw [E.len]; exact hr)) := List.getElem?_eq_getElem _
    have h4 := flat_get E l _ _ hx _ _ hu2
    rw [hj, hu] at h4
    have h5 := ((h3 _ _ hx).fz hS hw) (j % E.sz) _ hu2
    rw [Nat.add_assoc, hj] at h5
    rw [h5, ← h4]
theorem Src.w {A : Option Addr} {cs : List Value} (h : ∀ w, Fz S wf w → Src w A cs) : ∀ w, WW V S wf H w → Src w A cs := fun w hw => h w hw.fz
theorem row_src {α : Type} {E : Enc α} {e n c : Nat} {A : Option Addr} {l : List α} (k : Nat) (hk : H[k]? = some (rw_ E e (.slice A n c) l)) : ∀ w, WW V S wf H w → Src w A (flat E l) := fun w hw => by
  have hh := hw.has _ (List.mem_of_getElem? hk)
  rcases rw_holds.1 hh with ⟨_, rfl⟩ | ⟨g, cap, cur, h1', h2, h3, h4, h5, h6⟩
  · exact .inl rfl
  · injection h1' with h1' _ _
    subst h1'
    refine .inr ⟨g, 0, rfl, fun j u hu => ?_⟩
    rw [← h6] at hu
    rw [List.getElem?_take] at hu
    split at hu
    · simp [World.cell?, h2]
      simpa using hu
    · cases hu

/-- append of what can be read to a row that is owned. -/
theorem st_app {α : Type} {E : Enc α} {t e : TypeId} {x y : Operand} {v : Value} {l m : List α} {d : Nat} {z : Value} {bytes : Nat} {A : Option Addr} {n c : Nat} (ho : o.op = .call { callee := .builtin .append, args := #[x, y], argTypes := #[t, t] }) (hg : o.guard = none) (hd : o.dst = some d) (hdN : Nat.blt d N = true)
    (ht : P.underlying t = some (.slice e)) (hi : (P.info? e).map (fun i => (i.zero, i.size, i.bytes)) = some (some z, E.sz, bytes)) (hz : z.cells.size = E.sz)
    (hx : lk L x = some v) (hy : lk L y = some (.slice A n c)) (hp : Pick H (rw_ E e v l) R) (hn : m.length = n)
    (hm : ∀ w, WW V S wf H w → Src w A (flat E m)) (hb : (l.length + n) * bytes ≤ 140737488355328) (hb0 : Nat.ble 1 bytes = true)
    (k : ∀ v', K ⟨(d, v') :: L, rw_ E e v' (l ++ m) :: R, S, wf⟩) : OpStep V P Q ops N o ⟨L, H, S, wf⟩ K := by
  have h63 : l.length + n ≤ maxLen := by
    have h1 : 1 ≤ bytes := Nat.le_of_ble_eq_true hb0
    have h2 : (l.length + n) * 1 ≤ (l.length + n) * bytes := Nat.mul_le_mul_left _ h1
    simp only [maxLen]
    omega
  refine .act hg hd hdN (by simp [ho, noSel]) (by simp [ho, Op.operands, Call.operands, known_of hx, known_of hy]) fun w hw => ?_
  rcases hm w hw with hnil | ⟨b, off, rfl, hat⟩
  · -- nothing is appended
    have hm0 : m = [] := by
      cases m with
      | nil => rfl
      | cons a m =>
        have := E.pos
        have h2 := E.len a
        rw [flat_cons] at hnil
        have := congrArg List.length hnil
        simp at this
        rw [this.1] at h2
        simp at h2
        omega
    subst hm0
    simp at hn
    subst hn
    obtain ⟨i, hi, hq⟩ := Option.map_eq_some_iff.1 hi
    simp only [Prod.mk.injEq] at hq
    have hw' := hw.perm hp.perm
    have hk' := k v
    rw [List.append_nil] at hk'
    refine ⟨v, w, _, ?_, hw', hk'⟩
    have hh := rw_holds.1 (hw'.has _ (List.mem_cons_self ..))
    have hf : ∀ (s : Nat), (Builtin.firstCells s 0 (.slice A 0 c)).run P w = .ok #[] w := by
      intro s
      cases A <;> simp [Builtin.firstCells, loadCells, loadCellsFrom]
    rcases hh with ⟨rfl, _⟩ | ⟨g, cap, cur, rfl, h2, h3, _⟩
    · simp [execOp, ho, ev_of hx, ev_of hy, resolve, invoke, builtin, Builtin.append_, run_underlying ht, Builtin.lenOf, sizeOf, typeInfo, hi, hf]
    · simp [execOp, ho, ev_of hx, ev_of hy, resolve, invoke, builtin, Builtin.append_, run_underlying ht, Builtin.lenOf, sizeOf, typeInfo, hi, hf, h3, storeCells]
  · obtain ⟨i, hi, hq⟩ := Option.map_eq_some_iff.1 hi
    simp only [Prod.mk.injEq] at hq
    have hw' := hw.perm hp.perm
    have hown : w.ownsRow 0 e E.sz v l.length (flat E l) := hw'.has _ (List.mem_cons_self ..)
    obtain ⟨v', w', hr, h1, h2, _, h4⟩ := run_append_own_at (P := P) w 0 t o.type e i z E.sz bytes ht hi hq.1 hq.2.1 hq.2.2 hz E.pos v l.length (flat E l) hown ⟨b, off, none⟩ n c (flat E m) (by rw [flat_length, hn])
      (fun j u hu => by rw [add_at]; exact hat j u hu) (flat_one E m) h63 hb (Nat.zero_le _)
    refine ⟨v', w', _, by simp only [execOp, ho, resolve, invoke, builtin, Sem.run_bind, Sem.run_pure, Result.andThen_ok, List.map_toArray, List.map_cons, List.map_nil, ev_of hx, ev_of hy, hr], ?_, k v'⟩
    refine WW.change (C := [rw_ E e v l]) (R := R) (C' := [rw_ E e v' (l ++ m)]) hw' (fun b' hb' hn' => h2.block b' hb' (fun e => hn' ?_)) h2.size ?_ ?_ ?_ h2.os h2.tape h2.output
    · simp [rw_, row, ← e]
    · intro r hr
      simp only [List.mem_singleton] at hr
      subst hr
      show w'.ownsRow 0 e E.sz v' (l ++ m).length (flat E (l ++ m))
      rw [List.length_append, hn, flat_append]
      exact h1
    · simp [rw_, row]
      cases v'.ownBlock <;> simp
    · intro b' hb'
      simp [rw_, row] at hb' ⊢
      rcases h4 with h4 | h4
      · exact .inl (by rw [← h4]; exact hb')
      · rw [h4] at hb'
        simp at hb'
        omega

theorem run_equalIn_nil (d : Nat) {t e : TypeId} (hu : P.underlying t = some (.slice e)) (A : Option Addr) (n c : Nat) (w : World) : (Op.equalIn (d + 1) t (.slice A n c) (.slice none 0 0)).run P w = .ok A.isNone w := by
  cases A <;> simp [Op.equalIn, run_underlying hu]
def nilB : BinOp → Option Addr → Option Bool
  | .eql, A => some A.isNone
  | .neq, A => some (!A.isNone)
  | _, _ => none
/-- A slice held against nil. -/
theorem ev_nils {t t' e : TypeId} {x : Operand} {A : Option Addr} {n c : Nat} {op : BinOp} {y : Operand} {r : Bool} (ho : o.op = .binOp op t x y t') (hu : P.underlying t = some (.slice e)) (hx : lk L x = some (.slice A n c)) (hy : lk L y = some (.slice none 0 0))
    (hr : nilB op A = some r) : Ev P C L o (.bool r) :=
  ev_bin ho hx hy (fun w => by
    have h : (Op.equal t (.slice A n c) (.slice none 0 0)).run P w = .ok A.isNone w := run_equalIn_nil 9999 hu A n c w
    cases op <;> simp only [nilB, Option.some.injEq, reduceCtorEq] at hr
    · subst hr; simp [eqGuard, binOp, h]
    · subst hr; simp [eqGuard, binOp, h])

/-- A nil slice owns nothing: it is a row of no elements. -/
theorem WW.nilrow {α : Type} (E : Enc α) (e : Nat) {w : World} (h : WW V S wf H w) : WW V S wf (rw_ E e (.slice none 0 0) [] :: H) w where
  has r hr := by
    rcases List.mem_cons.1 hr with rfl | hr
    · exact rw_holds.2 (.inl ⟨rfl, rfl⟩)
    · exact h.has r hr
  nd := by simpa [rw_, row, Value.ownBlock] using h.nd
  sep b hb := h.sep b (by simpa [rw_, row, Value.ownBlock] using hb)
  fz := h.fz
  new := h.new
  fr := h.fr
  sz := h.sz
  os := h.os
  tape := h.tape
  output := h.output
theorem SP.nilrow {α : Type} (E : Enc α) (e : Nat) (h : SP V P Q ops N rest ⟨L, rw_ E e (.slice none 0 0) [] :: H, S, wf⟩) : SP V P Q ops N rest ⟨L, H, S, wf⟩ := fun a w hs hw => h a w hs (hw.nilrow E e)
theorem SC.nilrow {α : Type} (E : Enc α) (e : Nat) {c : Code} (h : SC V P Q N c ⟨L, rw_ E e (.slice none 0 0) [] :: H, S, wf⟩) : SC V P Q N c ⟨L, H, S, wf⟩ := fun a w hs hw => h a w hs (hw.nilrow E e)

/-- Element i of an owned row is written. -/
theorem run_setel {α : Type} [Inhabited α] {E : Enc α} {t e n c : Nat} {A : Option Addr} {l : List α} {i : Int} {x : α} {cs : List Value} {off : Nat} {ag : Bool} {w : World} {u : Value} (hcu : u.cells = cs.toArray) (ht : ty P t = some (ag, cs.length)) (hcs : cs.all (·.oneCell') = true)
    (hh : (rw_ E e (.slice A n c) l).holds w) (h0 : 0 ≤ i) (h1 : i < (l.length : Int)) (hle : off + cs.length ≤ E.sz) (hx : (E.enc (gt l i)).take off ++ cs ++ (E.enc (gt l i)).drop (off + cs.length) = E.enc x) :
    ∃ w', (storeVar t ⟨ab A, ao A + i.toNat * E.sz + off, none⟩ u).run P w = .ok () w' ∧ (rw_ E e (.slice A n c) (l.set i.toNat x)).holds w' ∧ (∀ b, b ≠ ab A → w'.heap[b]? = w.heap[b]?) ∧ w'.heap.size = w.heap.size ∧ w'.os = w.os ∧ w'.tape = w.tape ∧ w'.output = w.output ∧ A = some ⟨ab A, 0, none⟩ := by
  rcases rw_holds.1 hh with ⟨_, rfl⟩ | ⟨g, cap, cur, h1', h2, h3, h4, h5, h6⟩
  · simp at h1; omega
  · injection h1' with hA hn hc
    subst hA hn hc
    have hi : i.toNat < l.length := by omega
    have hpos : i.toNat * E.sz + E.sz ≤ l.length * E.sz := by rw [← Nat.succ_mul]; exact Nat.mul_le_mul_right _ hi
    have hcap : l.length * E.sz ≤ cur.size := by rw [h5]; exact Nat.mul_le_mul_right _ h3
    have hb : w.heap[g]? = some (.cells cur.toList.toArray e (0, 0)) := by simpa using h2
    obtain ⟨w', hr, k1, k2, k3, k4, k5, k6⟩ := run_storea (P := P) (off := i.toNat * E.sz + off) hcu ht hcs hb (by simp; omega)
    refine ⟨w', by simpa [ab, ao] using hr, ?_, fun b hb' => k2 b (by simpa [ab] using hb'), k3, k4, k5, k6, rfl⟩
    refine rw_holds.2 (.inr ⟨g, c, _, by rw [List.length_set], k1, by rw [List.length_set]; exact h3, h4, ?_, ?_⟩)
    · simp; omega
    · rw [List.length_set, List.toList_toArray]
      have e1 : (cur.toList.take (i.toNat * E.sz + off) ++ cs ++ cur.toList.drop (i.toNat * E.sz + off + cs.length)).take (l.length * E.sz) = (flat E l).take (i.toNat * E.sz + off) ++ cs ++ (flat E l).drop (i.toNat * E.sz + off + cs.length) := by
        rw [← h6, List.take_take, List.drop_take, List.take_append, List.take_append]
        simp only [List.length_append, List.length_take, Array.length_toList]
        congr 1
        · congr 1
          · rw [List.take_take]; congr 1; omega
          · exact List.take_of_length_le (by omega)
        · congr 1
          omega
      rw [e1]
      have e2 : flat E l = flat E (l.take i.toNat) ++ E.enc (gt l i) ++ flat E (l.drop (i.toNat + 1)) := by
        conv => lhs; rw [← List.take_append_drop i.toNat l, List.drop_eq_getElem_cons hi]
        rw [flat_append, flat_cons, List.append_assoc]
        congr 2
        simp [gt, List.getD_eq_getElem?_getD, hi]
      have hl1 : (flat E (l.take i.toNat)).length = i.toNat * E.sz := by rw [flat_length, List.length_take]; congr 1; omega
      have hl2 : (E.enc (gt l i)).length = E.sz := E.len _
      have e3 : flat E (l.set i.toNat x) = flat E (l.take i.toNat) ++ E.enc x ++ flat E (l.drop (i.toNat + 1)) := by
        rw [List.set_eq_take_append_cons_drop, if_pos hi, flat_append, flat_cons, List.append_assoc]
      rw [e3, ← hx, e2]
      simp only [List.append_assoc]
      rw [List.take_append, List.take_of_length_le (by omega), hl1, show i.toNat * E.sz + off - i.toNat * E.sz = off from by omega, List.take_append, List.drop_append, hl1,
        show i.toNat * E.sz + off + cs.length - i.toNat * E.sz = off + cs.length from by omega, List.drop_append, List.drop_eq_nil_of_le (as := flat E (l.take i.toNat)) (by omega), hl2]
      rw [show off - E.sz = 0 from by omega, show off + cs.length - E.sz = 0 from by omega]
      simp


/-- Element i of an owned row is written, or a part of it. -/
theorem st_setel {α : Type} [Inhabited α] {E : Enc α} {t e n c p : Nat} {A : Option Addr} {l : List α} {i : Int} {cs : List Value} {off : Nat} {ag : Bool} {x y : Operand} {u : Value} (z : α) (ho : o.op = .store t x y) (hg : o.guard = none) (hd : o.dst = none) (ht : ty P t = some (ag, cs.length))
    (hx : lk L x = some (.pointer (some ⟨ab A, p, none⟩))) (hpo : p = ao A + i.toNat * E.sz + off) (hy : lk L y = some u) (hcu : u.cells = cs.toArray) (hcs : cs.all (·.oneCell') = true) (hp : Pick H (rw_ E e (.slice A n c) l) R)
    (h0 : 0 ≤ i) (h1 : i < (l.length : Int)) (hle : off + cs.length ≤ E.sz) (hz : (E.enc (gt l i)).take off ++ cs ++ (E.enc (gt l i)).drop (off + cs.length) = E.enc z)
    (k : K ⟨L, rw_ E e (.slice A n c) (l.set i.toNat z) :: R, S, wf⟩) : OpStep V P Q ops N o ⟨L, H, S, wf⟩ K :=
  .eff hg hd (by simp [ho, noSel]) (by simp [ho, Op.operands, known_of hx, known_of hy]) fun w hw => by
    subst hpo
    have hw' := hw.perm hp.perm
    have hh := hw'.has _ (List.mem_cons_self ..)
    obtain ⟨w', hr, k1, k2, k3, k4, k5, k6, hA⟩ := run_setel (P := P) hcu ht hcs hh h0 h1 hle hz
    refine ⟨w', _, by simp [execOp, ho, ev_of hx, ev_of hy, Instr.storeAt, Instr.sureAddr, hr], ?_, k⟩
    have hf : ∀ m : List α, (rw_ E e (.slice A n c) m).foot = [ab A] := by intro m; rw [hA]; rfl
    refine WW.change (C := [rw_ E e (.slice A n c) l]) (R := R) (C' := [rw_ E e (.slice A n c) (l.set i.toNat z)]) hw' (fun b hb hn => k2 b (fun e => hn (by simp [hf, e]))) (by omega) ?_ (by simp [hf]) (fun b hb => .inl (by simpa [hf] using hb)) k4 k5 k6
    intro r hr
    simp only [List.mem_singleton] at hr
    subst hr
    exact k1


/-! ### What is lent to a region, or to a callee -/
theorem feet_of {R : List Res} {r : Res} {b : Nat} (i : Nat) (h : R[i]? = some r) (hb : b ∈ r.foot) : b ∈ feet R := mem_feet.2 ⟨r, List.mem_of_getElem? h, hb⟩
theorem At.lent {wf1 : World} {b off e : Nat} {l cs : List Value} (hR : ∀ r ∈ R, r.holds wf1) (i : Nat) (hi : R[i]? = some (cel b l e)) (hc : (l.drop off).take cs.length = cs) : ∀ w, Fz (fun b => S b ∨ b ∈ feet R) wf1 w → At w b off cs := fun w hw =>
  (At.of_blk (w := wf1) (hR _ (List.mem_of_getElem? hi)) (fun j u hu => by
    rw [← hc] at hu
    rw [List.getElem?_take] at hu
    split at hu
    · rw [List.getElem?_drop] at hu
      simpa using hu
    · cases hu)).fz (S := fun b => S b ∨ b ∈ feet R) (.inr (feet_of i hi (by simp [blk]))) hw
theorem Fr.of_row {α : Type} {E : Enc α} {e n c : Nat} {A : Option Addr} {l : List α} {w : World} (h : (rw_ E e (.slice A n c) l).holds w) (hS : ∀ b ∈ (rw_ E e (.slice A n c) l).foot, S b) (hl : l.length ≤ 140737488355328) : Fr E S w A l := by
  refine ⟨hl, ?_⟩
  rcases rw_holds.1 h with ⟨_, rfl⟩ | ⟨g, cap, cur, h1', h2, h3, h4, h5, h6⟩
  · exact .inl rfl
  · injection h1' with h1' _ _
    subst h1'
    refine .inr ⟨g, 0, rfl, hS g (by simp [rw_, row, Value.ownBlock]), fun i x hx => ?_⟩
    exact At.row (A := .bool true) h hx
theorem Fr.lent {α : Type} {E : Enc α} {e n c : Nat} {A : Option Addr} {l : List α} {wf1 : World} (hR : ∀ r ∈ R, r.holds wf1) (i : Nat) (hi : R[i]? = some (rw_ E e (.slice A n c) l)) (hl : l.length ≤ 140737488355328) : Fr E (fun b => S b ∨ b ∈ feet R) wf1 A l :=
  .of_row (hR _ (List.mem_of_getElem? hi)) (fun b hb => .inr (feet_of i hi hb)) hl
/-- A part of a frozen slice. -/
theorem Fr.view {α : Type} {E : Enc α} {A : Option Addr} {l : List α} {c : Nat} (h : Fr E S wf A l) (i j sz : Nat) (hsz : E.sz = sz) (hj : j ≤ c) : Fr E S wf (cutA A c i sz) ((l.take j).drop i) := by
  subst hsz
  refine ⟨by have := h.1; simp; omega, ?_⟩
  by_cases hlt : i < j ∧ i < l.length
  · rcases h.2 with rfl | ⟨b, off, rfl, hS, h3⟩
    · simp
    · refine .inr ⟨b, off + i * E.sz, by rw [cutA_some, cutO_lt (by omega)], hS, fun k x hx => ?_⟩
      rw [List.getElem?_drop] at hx
      rw [List.getElem?_take] at hx
      split at hx
      · have := h3 _ _ hx
        rw [show off + i * E.sz + k * E.sz = off + (i + k) * E.sz from by rw [Nat.add_mul]; omega]
        exact this
      · cases hx
  · refine .inl ?_
    apply List.drop_eq_nil_of_le
    simp
    omega

inductive App {α : Type} : List α → List α → List α → Prop where
  | n {R : List α} : App [] R R
  | c {r : α} {C R H : List α} : App C R H → App (r :: C) R (r :: H)
theorem App.eq {α : Type} {C R H : List α} (h : App C R H) : C ++ R = H := by
  induction h with
  | n => rfl
  | c _ ih => simp [ih]
theorem SQ.go {y : Code} {Q1 : Exit → Act → World → Prop} {Q2 : Act → World → Prop} (hQ : ∀ a w, y.wp P Q1 a w → Q2 a w) (h : SC V P Q1 N y st) : SQ V Q2 N st := fun a w hs hw => hQ a w (h a w hs hw)
/-- The end of a region of open order. -/
theorem SR.fin {wf1 : World} {C' H' : List Res} {listed : Array Bool} {fuel : Nat} {B : World → Prop} {cs : List (Nat × (World → Prop))} (hr : Region.ready .any ops listed = []) (hl : Lent V S R) (hx : Ext S wf (fun b => S b ∨ b ∈ feet R) wf1) (hR : ∀ r ∈ R, r.holds wf1) (ha : App C' R H')
    (h : SQ V (Q .normal) N ⟨L, H', S, wf⟩) : SR V P Q ops N B cs fuel listed ⟨L, C', fun b => S b ∨ b ∈ feet R, wf1⟩ := SR.done hr hl hx hR (by rw [ha.eq]; exact h)
theorem SR.know {listed : Array Bool} {fuel : Nat} {B : World → Prop} {cs : List (Nat × (World → Prop))} {φ : Prop} (h : ∀ w, WW V st.S st.wf st.H w → φ) (k : φ → SR V P Q ops N B cs fuel listed st) : SR V P Q ops N B cs fuel listed st := fun a w hs hw hT hc => k (h w hw) a w hs hw hT hc


/-! ### Calls that are lent owned parts -/
theorem Fr.lend {α : Type} {E : Enc α} {e n c : Nat} {A : Option Addr} {l : List α} {C0 R1 : List Res} {w : World} (hw : WW V S wf (C0 ++ (R1 ++ R)) w) (i : Nat) (hi : R1[i]? = some (rw_ E e (.slice A n c) l)) (hl : l.length ≤ 140737488355328) : Fr E (fun b => S b ∨ b ∈ feet R1) w A l :=
  .of_row (hw.has _ (List.mem_append_right _ (List.mem_append_left _ (List.mem_of_getElem? hi)))) (fun b hb => .inr (feet_of i hi hb)) hl
theorem WW.lendx {C0 R1 : List Res} {w : World} (hw : WW V S wf (C0 ++ (R1 ++ R)) w) : Ext S wf (fun b => S b ∨ b ∈ feet R1) w := fun b hb => ⟨.inl hb, (hw.fz b hb).1, (hw.fz b hb).2⟩
theorem st_lendk {d : Nat} {f : FuncId} {x : Array Operand} {ts : Array TypeId} {args : List Value} {r : Value} {C0 R0 R1 : List Res} (ho : o.op = .call { callee := .value (.func f), args := x, argTypes := ts }) (hg : o.guard = none) (hd : o.dst = some d) (hdN : Nat.blt d N = true)
    (hf : hasBody P f = true) (ha : lkAll L x.toList = some args) (hp : PickL H C0 R0) (hp1 : PickL R0 R1 R) (hT : ∀ w, WW V S wf (C0 ++ (R1 ++ R)) w → TR0 P f args C0 (fun b => S b ∨ b ∈ feet R1) w (fun v C' => v = r ∧ C' = C0))
    (k : K ⟨(d, r) :: L, H, S, wf⟩) : OpStep V P Q ops N o ⟨L, H, S, wf⟩ K :=
  have hc := run_call ho hf ha
  have hpp := hp.perm.trans (List.Perm.append_left C0 hp1.perm)
  .enter hg hd hdN hc.1 hc.2.1 hc.2.2 fun w hw =>
    have hw' := hw.perm hpp
    (hT w hw' w hw'.lend).mono fun e w' ⟨v, C', S', wf', h1, ⟨⟨h2, h5⟩, h6, h7⟩, h3, h4⟩ => by
      subst h2 h5
      exact ⟨v, _, S, wf, h1, (hw'.call h4).perm hpp.symm, k⟩
theorem st_glendk {d g t : Nat} {want b : Bool} {f : FuncId} {x : Array Operand} {ts : Array TypeId} {args : List Value} {r : Value} {C0 R0 R1 : List Res} (ho : o.op = .call { callee := .value (.func f), args := x, argTypes := ts }) (hg : o.guard = some (g, want)) (ht : (ops[g]?).bind (·.dst) = some t) (hL : lkp L t = some (.bool b)) (hd : o.dst = some d) (hdN : Nat.blt d N = true)
    (hf : hasBody P f = true) (ha : b = want → lkAll L x.toList = some args) (hp : PickL H C0 R0) (hp1 : PickL R0 R1 R) (hT : b = want → ∀ w, WW V S wf (C0 ++ (R1 ++ R)) w → TR0 P f args C0 (fun b => S b ∨ b ∈ feet R1) w (fun v C' => v = r ∧ C' = C0))
    (k : K ⟨(d, gv b want r) :: L, H, S, wf⟩) : OpStep V P Q ops N o ⟨L, H, S, wf⟩ K := by
  refine .split (st := ⟨L, H, S, wf⟩) hg ht hL (fun hb => st_lendk ho rfl hd hdN hf (ha hb) hp hp1 (hT hb) ?_) hd hdN (fun hb => ?_)
  · rw [show gv b want r = r from if_pos hb] at k
    exact k
  · rw [show gv b want r = undef from if_neg hb] at k
    exact k

end
end Go.SX
