/- Blocks laid open: what is put where. -/
import Derived.Test.YthmkelkefmfmgaaSxBlk
import Derived.Lib.AppendZerosOnto
set_option linter.unusedVariables false
set_option linter.unusedSimpArgs false
namespace Go.SX
open Go Go.RowKit Go.Lib

/-- A list with cells put in at a place. -/
def put (T : List Value) (p : Nat) (cs : List Value) : List Value := T.take p ++ cs ++ T.drop (p + cs.length)
theorem put_nil (T : List Value) (p : Nat) : put T p [] = T := by simp [put]
theorem put_length {T cs : List Value} {p : Nat} (h : p + cs.length ≤ T.length) : (put T p cs).length = T.length := by
  simp only [put, List.length_append, List.length_take, List.length_drop]; omega
theorem put_take {T cs : List Value} {p k : Nat} (h : k ≤ p) (hp : p ≤ T.length) : (put T p cs).take k = T.take k := by
  rw [put, List.append_assoc, List.take_append_of_le_length (by rw [List.length_take]; omega), List.take_take, Nat.min_eq_left h]
theorem put_take' {T cs : List Value} {p : Nat} (hp : p ≤ T.length) : (put T p cs).take (p + cs.length) = T.take p ++ cs := by
  have h : (T.take p ++ cs).length = p + cs.length := by rw [List.length_append, List.length_take]; omega
  rw [put, ← h]; exact List.take_left
theorem put_drop {T cs : List Value} {p : Nat} (hp : p ≤ T.length) : (put T p cs).drop p = cs ++ T.drop (p + cs.length) := by
  have h : (T.take p).length = p := by rw [List.length_take]; omega
  have h2 : (T.take p ++ (cs ++ T.drop (p + cs.length))).drop (T.take p).length = cs ++ T.drop (p + cs.length) := List.drop_left
  rw [put, List.append_assoc]
  rwa [h] at h2
theorem put_drop' {T cs : List Value} {p q : Nat} (hp : p ≤ T.length) (h : p + cs.length ≤ q) : (put T p cs).drop q = T.drop q := by
  obtain ⟨r, rfl⟩ := Nat.exists_eq_add_of_le h
  rw [← List.drop_drop, ← List.drop_drop, ← List.drop_drop, put_drop hp, List.drop_left, List.drop_drop]

section
variable {V : Env} {P : Program} {Q : Exit → Act → World → Prop} {ops : Array Oper} {N : Nat} {o : Oper} {rest : List Oper} {L : List (Nat × Value)} {H R : List Res} {S : Nat → Prop} {wf : World} {K : St → Prop} {st : St} {C : World → Prop}

theorem gv_on {b want : Bool} {v : Value} (h : b = want) : gv b want v = v := if_pos h
theorem gv_off {b want : Bool} {v : Value} (h : b = !want) : gv b want v = undef := if_neg (by rw [h]; cases want <;> simp)
theorem OpStep.offu {g t d : Nat} {want : Bool} (hg : o.guard = some (g, want)) (ht : (ops[g]?).bind (·.dst) = some t) (hL : lkp st.L t = some undef) (hd : o.dst = some d) (hdN : Nat.blt d N = true) (h : K ⟨(d, undef) :: st.L, st.H, st.S, st.wf⟩) : OpStep V P Q ops N o st K := by
  intro a w hs hw J hJ
  have h2 : a.tmps.getD t undef = undef := hs.2.2 t undef hL
  have hy : yielded ops a.tmps g = none := by
    rw [Array.getD_eq_getD_getElem?] at h2
    unfold yielded
    rw [ht]
    simp only [Option.bind_some]
    cases hx : a.tmps[t]? with
    | none => rfl
    | some u => rw [hx] at h2; simp at h2; subst h2; rfl
  unfold Step1
  rw [if_neg (by simp [Region.wanted, hg, hy]), hd]
  exact hJ _ h _ _ (hs.put hdN undef) hw
theorem SP.reslotv {t : Nat} {u v : Value} (hL : lkp st.L t = some u) (e : u = v) (h : SP V P Q ops N rest ⟨(t, v) :: st.L, st.H, st.S, st.wf⟩) : SP V P Q ops N rest st := by
  subst e
  intro a w hs hw
  refine h a w (hs.mono fun k v hk => ?_) hw
  unfold lkp at hk
  cases hq : Nat.beq k t with
  | true =>
    have := Nat.eq_of_beq_eq_true hq
    subst this
    rw [hq] at hk
    simp at hk
    subst hk
    exact hL
  | false =>
    rw [hq] at hk
    exact hk
/-- append to a row of none. -/
theorem st_app0 {α : Type} {E : Enc α} {t e : TypeId} {x y : Operand} {v : Value} {m : List α} {d : Nat} {z : Value} {bytes : Nat} {A : Option Addr} {n c : Nat} (ho : o.op = .call { callee := .builtin .append, args := #[x, y], argTypes := #[t, t] }) (hg : o.guard = none) (hd : o.dst = some d) (hdN : Nat.blt d N = true)
    (ht : P.underlying t = some (.slice e)) (hi : (P.info? e).map (fun i => (i.zero, i.size, i.bytes)) = some (some z, E.sz, bytes)) (hz : z.cells.size = E.sz)
    (hx : lk L x = some v) (hy : lk L y = some (.slice A n c)) (hp : Pick H (rw_ E e v []) R) (hn : m.length = n)
    (hm : ∀ w, WW V S wf H w → Src w A (flat E m)) (hb : n * bytes ≤ 140737488355328) (hb0 : Nat.ble 1 bytes = true)
    (k : ∀ v', K ⟨(d, v') :: L, rw_ E e v' m :: R, S, wf⟩) : OpStep V P Q ops N o ⟨L, H, S, wf⟩ K :=
  st_app (l := []) ho hg hd hdN ht hi hz hx hy hp hn hm (by rw [List.length_nil, Nat.zero_add]; exact hb) hb0 k
theorem ev_slc0 {t e : TypeId} {x : Operand} {hi : Option Operand} {b off n c h sz : Nat} {ag : Bool} (ho : o.op = .slice t x none hi none) (hu : P.underlying t = some (.slice e)) (hs : ty P e = some (ag, sz))
    (hx : lk L x = some (.slice (some ⟨b, off, none⟩) n c)) (hhi : Bd L hi n h) (h2 : h ≤ c) : Ev P C L o (.slice (some ⟨b, off, none⟩) h c) := by
  have := ev_slcs (C := C) ho hu hs hx .n hhi (Nat.zero_le _) h2
  simpa [cutO_zero] using this

/-- What stands in a block from a cut on. -/
theorem src_blk {g off c l sz e : Nat} {cs T : List Value} (k : Nat) (hk : H[k]? = some (cel g T e)) (hT : (T.drop (off + l * sz)).take cs.length = cs) (hc : cs = [] ∨ l < c) : ∀ w, WW V S wf H w → Src w (some ⟨g, cutO off c l sz, none⟩) cs := fun w hw => by
  rcases hc with rfl | hc
  · exact .inl rfl
  · refine .inr ⟨g, _, rfl, ?_⟩
    rw [cutO_lt hc]
    have := At.elemn (C := WW V S wf H) (At.whole k hk) (off + l * sz) hT w hw
    rwa [Nat.zero_add] at this
/-- What stands in a block from its head on. -/
theorem src_blk0 {g e : Nat} {cs T : List Value} (k : Nat) (hk : H[k]? = some (cel g T e)) (hT : T.take cs.length = cs) : ∀ w, WW V S wf H w → Src w (some ⟨g, 0, none⟩) cs := fun w hw => by
  refine .inr ⟨g, _, rfl, ?_⟩
  exact At.elemn (C := WW V S wf H) (At.whole k hk) 0 (by simpa using hT) w hw

theorem run_first0 (P : Program) (A : Option Addr) (sz n c : Nat) (w : World) : (Builtin.firstCells sz 0 (.slice A n c)).run P w = .ok #[] w := by
  cases A <;> simp [Builtin.firstCells, loadCells, loadCellsFrom]

/-- copy into a block from a cut on. -/
theorem st_copyp {t t' e e' : TypeId} {x y : Operand} {g off c0 l0 nd cd ns c' sz k p : Nat} {A : Option Addr} {ag : Bool} {T : List Value} {d : Nat} (cells : List Value) (ho : o.op = .call { callee := .builtin .copy, args := #[x, y], argTypes := #[t, t'] }) (hg : o.guard = none) (hd : o.dst = some d) (hdN : Nat.blt d N = true)
    (hu : P.underlying t = some (.slice e)) (hs : ty P e = some (ag, sz)) (hsz : Nat.ble 1 sz = true) (hx : lk L x = some (.slice (some ⟨g, cutO off c0 l0 sz, none⟩) nd cd)) (hnd : nd ≤ c0 - l0) (hy : lk L y = some (.slice A ns c'))
    (hk : Nat.min ns nd = k) (hc : cells.length = k * sz) (h1 : cells.all (·.oneCell') = true) (hm : ∀ w, WW V S wf H w → Src w A cells) (hp : Pick H (cel g T e') R) (hpp : off + l0 * sz = p) (hle : p + cells.length ≤ T.length)
    (kk : K ⟨(d, .int .i64 (k : Int)) :: L, cel g (put T p cells) e' :: R, S, wf⟩) : OpStep V P Q ops N o ⟨L, H, S, wf⟩ K := by
  have hsz := Nat.le_of_ble_eq_true hsz
  by_cases hk0 : k = 0
  · subst hk0
    have : cells = [] := List.eq_nil_of_length_eq_zero (by simpa using hc)
    subst this
    rw [put_nil] at kk
    refine .act hg hd hdN (by simp [ho, noSel]) (by simp [ho, Op.operands, Call.operands, known_of hx, known_of hy]) fun w hw => ?_
    obtain ⟨_, inf, _, hi', _, rfl⟩ := ty_spec hs
    refine ⟨_, w, _, by simp [execOp, ho, ev_of hx, ev_of hy, resolve, invoke, builtin, Builtin.copy_, run_underlying hu, Builtin.lenOf, hk, sizeOf, typeInfo, hi', run_first0, storeCells, goInt], hw.perm hp.perm, kk⟩
  · have hne : cells ≠ [] := fun h => by
      subst h
      have h2 : 0 < _ * sz := Nat.mul_pos (Nat.pos_of_ne_zero hk0) hsz
      simp only [List.length_nil] at hc
      omega
    have hmin : k ≤ nd := by rw [← hk]; exact Nat.min_le_right _ _
    have hcut : cutO off c0 l0 sz = p := by rw [cutO_lt (by omega), hpp]
    rw [hcut] at hx
    refine .know (φ := ∃ b q, A = some ⟨b, q, none⟩) (fun w hw => ?_) (fun ⟨b, q, hA⟩ => ?_)
    · rcases hm w hw with h | ⟨b, q, h, _⟩
      · exact absurd h hne
      · exact ⟨b, q, h⟩
    · subst hA
      refine st_copy ho hg hd hdN hu hs hx hy hk hc h1 (fun w hw => ?_) hp hle rfl kk
      rcases hm w hw with h | ⟨b', q', h, hat⟩
      · exact absurd h hne
      · injection h with h
        injection h with h1 h2
        subst h1 h2
        exact hat

/-- append in place. -/
theorem st_appp {t e e' : TypeId} {x y : Operand} {g n c m c' sz p : Nat} {A : Option Addr} {ag : Bool} {T : List Value} {d : Nat} (cells : List Value) (ho : o.op = .call { callee := .builtin .append, args := #[x, y], argTypes := #[t, t] }) (hg : o.guard = none) (hd : o.dst = some d) (hdN : Nat.blt d N = true)
    (hu : P.underlying t = some (.slice e)) (hs : ty P e = some (ag, sz)) (hsz : Nat.ble 1 sz = true) (hx : lk L x = some (.slice (some ⟨g, 0, none⟩) n c)) (hy : lk L y = some (.slice A m c'))
    (hroom : n + m ≤ c) (hc : cells.length = m * sz) (h1 : cells.all (·.oneCell') = true) (hm : ∀ w, WW V S wf H w → Src w A cells) (hp : Pick H (cel g T e') R) (hpp : n * sz = p) (hle : p + cells.length ≤ T.length)
    (kk : K ⟨(d, .slice (some ⟨g, 0, none⟩) (n + m) c) :: L, cel g (put T p cells) e' :: R, S, wf⟩) : OpStep V P Q ops N o ⟨L, H, S, wf⟩ K := by
  have hsz := Nat.le_of_ble_eq_true hsz
  subst hpp
  by_cases hk0 : m = 0
  · subst hk0
    have : cells = [] := List.eq_nil_of_length_eq_zero (by simpa using hc)
    subst this
    rw [put_nil] at kk
    refine .act hg hd hdN (by simp [ho, noSel]) (by simp [ho, Op.operands, Call.operands, known_of hx, known_of hy]) fun w hw => ?_
    obtain ⟨_, inf, _, hi', _, rfl⟩ := ty_spec hs
    have hroom' : n ≤ c := by omega
    refine ⟨_, w, _, by simp [execOp, ho, ev_of hx, ev_of hy, resolve, invoke, builtin, Builtin.append_, run_underlying hu, Builtin.lenOf, hroom', sizeOf, typeInfo, hi', run_first0, storeCells]; rfl, hw.perm hp.perm, by simpa using kk⟩
  · have hne : cells ≠ [] := fun h => by
      subst h
      have h2 : 0 < _ * sz := Nat.mul_pos (Nat.pos_of_ne_zero hk0) hsz
      simp only [List.length_nil] at hc
      omega
    refine .know (φ := ∃ b q, A = some ⟨b, q, none⟩) (fun w hw => ?_) (fun ⟨b, q, hA⟩ => ?_)
    · rcases hm w hw with h | ⟨b, q, h, _⟩
      · exact absurd h hne
      · exact ⟨b, q, h⟩
    · subst hA
      refine st_approom ho hg hd hdN hu hs hx hy hroom hc h1 (fun w hw => ?_) hp hle rfl kk
      rcases hm w hw with h | ⟨b', q', h, hat⟩
      · exact absurd h hne
      · injection h with h
        injection h with h1 h2
        subst h1 h2
        exact hat

/-- clear of a block's part from a cut on. -/
theorem st_clearp {t e e' : TypeId} {x : Operand} {g off c0 l0 n c sz p : Nat} {ag : Bool} {T z : List Value} (ho : o.op = .call { callee := .builtin .clear, args := #[x], argTypes := #[t] }) (hg : o.guard = none) (hd : o.dst = none)
    (hu : P.underlying t = some (.slice e)) (hs : ty P e = some (ag, sz)) (hz : (P.info? e).bind (fun i => i.zero.map Value.cells) = some z.toArray) (hz1 : z.all (·.oneCell') = true) (hzl : z.length = sz) (hx : lk L x = some (.slice (some ⟨g, cutO off c0 l0 sz, none⟩) n c)) (hn : n ≤ c0 - l0)
    (hp : Pick H (cel g T e') R) (hpp : off + l0 * sz = p) (hle : p + n * sz ≤ T.length) (k : ∀ zs : List Value, zs.length = n * sz → K ⟨L, cel g (put T p zs) e' :: R, S, wf⟩) : OpStep V P Q ops N o ⟨L, H, S, wf⟩ K := by
  subst hpp
  by_cases h0 : n = 0
  · subst h0
    refine st_clear (l' := T) ho hg hd hu hs hz hz1 hzl hx hp (.inl rfl) (fun zs hzs => ?_)
    have : zs = [] := List.eq_nil_of_length_eq_zero (by simpa using hzs)
    subst this
    have := k [] (by simp)
    rwa [put_nil] at this
  · rw [cutO_lt (by omega)] at hx
    refine st_clear (l' := T) ho hg hd hu hs hz hz1 hzl hx hp (.inr hle) (fun zs hzs => ?_)
    rw [if_neg h0, ← hzs]
    exact k zs hzs

/-- append of zeros where there is no room: a new block; the old one stays. -/
theorem st_growz {t tn e e' : TypeId} {x y : Operand} {g n c k sz bytes i : Nat} {kq kn : IntKind} {kk : Int} {z : Value} {T : List Value} {d : Nat} (ho : o.op = .call { callee := .builtin .append, args := #[x, y], argTypes := #[t, tn] }) (hg : o.guard = none) (hd : o.dst = some d) (hdN : Nat.blt d N = true)
    (hu : P.underlying t = some (.slice e)) (htn : P.underlying tn = some (.int kn)) (hi : (P.info? e).map (fun i => (i.zero, i.size, i.bytes)) = some (some z, sz, bytes)) (hz : z.cells.size = sz) (hsz : Nat.ble 1 sz = true) (hb0 : Nat.ble 1 bytes = true)
    (hx : lk L x = some (.slice (some ⟨g, 0, none⟩) n c)) (hy : lk L y = some (.int kq kk)) (hkk : kk = (k : Int)) (hk0 : 0 < k) (hroom : c < n + k) (hb : (n + k) * bytes ≤ 140737488355328)
    (hp : H[i]? = some (cel g T e')) (hle : n * sz ≤ T.length)
    (kx : ∀ g' c' sp, n + k ≤ c' → c' ≤ maxLen → (T.take (n * sz) ++ sp).length = c' * sz → K ⟨(d, .slice (some ⟨g', 0, none⟩) (n + k) c') :: L, cel g' (T.take (n * sz) ++ sp) e :: H, S, wf⟩) : OpStep V P Q ops N o ⟨L, H, S, wf⟩ K := by
  have hsz := Nat.le_of_ble_eq_true hsz
  have hb0 := Nat.le_of_ble_eq_true hb0
  subst hkk
  refine .act hg hd hdN (by simp [ho, noSel]) (by simp [ho, Op.operands, Call.operands, known_of hx, known_of hy]) fun w hw => ?_
  obtain ⟨inf, hi2, hq⟩ := Option.map_eq_some_iff.1 hi
  simp only [Prod.mk.injEq] at hq
  obtain ⟨hq1, rfl, rfl⟩ := hq
  have hnk : n + k ≤ 140737488355328 := Nat.le_trans (by have := Nat.mul_le_mul_left (n + k) hb0; omega) hb
  have hat : At w.drew g 0 (T.take (n * inf.size)) := by
    have := At.elemn (C := WW V S wf H) (At.whole i hp) 0 (ds := T.take (n * inf.size)) (by simp [List.length_take, Nat.min_eq_left hle]) w.drew hw.drew
    simpa using this
  have hl : (T.take (n * inf.size)).length = n * inf.size := by rw [List.length_take]; omega
  have hr := run_append_grow_zeros (P := P) w t tn o.type e inf z kq kn hu htn hi2 hq1 (some ⟨g, 0, none⟩) n c (T.take (n * inf.size)) (by
      simp only [Builtin.firstCells]
      exact run_loadCells_at (P := P) hat hl) k hk0 hsz hroom (by omega) (by
        have : k * inf.bytes ≤ (n + k) * inf.bytes := Nat.mul_le_mul_right _ (by omega)
        omega) (growslice_fits (by omega) hb)
  have hge := grownCap_ge w (n + k) c e
  have hcm : grownCap w (n + k) c e ≤ maxLen := grownCap_le_maxLen w (n + k) c e (by simp only [maxLen]; omega)
  refine ⟨_, _, _, by simp only [execOp, ho, resolve, invoke, builtin, Sem.run_bind, Sem.run_pure, Result.andThen_ok, List.map_toArray, List.map_cons, List.map_nil, ev_of hx, ev_of hy, hr]; rfl, ?_, kx w.heap.size (grownCap w (n + k) c e) ((Builtin.zeroCells z.cells k ++ Builtin.zeroCells z.cells (grownCap w (n + k) c e - (n + k))).toList) hge hcm ?_⟩
  · have h1 := hw.drew.alloc (.cells ((T.take (n * inf.size)).toArray ++ Builtin.zeroCells z.cells k ++ Builtin.zeroCells z.cells (grownCap w (n + k) c e - (n + k))) e (0, 0))
    have e1 : (T.take (n * inf.size)).toArray ++ Builtin.zeroCells z.cells k ++ Builtin.zeroCells z.cells (grownCap w (n + k) c e - (n + k)) = (T.take (n * inf.size) ++ (Builtin.zeroCells z.cells k ++ Builtin.zeroCells z.cells (grownCap w (n + k) c e - (n + k))).toList).toArray := by
      apply Array.ext'
      simp
    rw [e1] at h1 ⊢
    exact h1
  · rw [List.length_append, hl, Array.length_toList, Array.size_append, size_zeroCells, size_zeroCells, hz, ← Nat.add_mul, ← Nat.add_mul]
    congr 1
    omega

/-- Two blocks of the call's own are two. -/
theorem apart_blk {a b ea eb : Nat} {la lb : List Value} {R1 R2 : List Res} (h1 : Pick H (cel a la ea) R1) (h2 : Pick R1 (cel b lb eb) R2) (hlb : 0 < lb.length) :
    ∀ w, WW V S wf H w → ∃ la lb ea eb, w.heap[a]? = some (.cells la ea (0, 0)) ∧ w.heap[b]? = some (.cells lb eb (0, 0)) ∧ a ≠ b ∧ lb.size ≠ 0 := fun w hw => by
  have hw' := hw.perm (h1.perm.trans (List.Perm.cons _ h2.perm))
  refine ⟨la.toArray, lb.toArray, ea, eb, hw'.has _ (List.mem_cons_self ..), hw'.has _ (List.mem_cons_of_mem _ (List.mem_cons_self ..)), ?_, by simpa using Nat.ne_of_gt hlb⟩
  have := hw'.nd
  rintro rfl
  simp [feet, blk] at this

theorem SR.recel {g e : Nat} {T T' : List Value} {B : World → Prop} {cs : List (Nat × (World → Prop))} {fuel : Nat} {listed : Array Bool} (hp : Pick H (cel g T e) R) (hT : T = T') (h : SR V P Q ops N B cs fuel listed ⟨L, cel g T' e :: R, S, wf⟩) : SR V P Q ops N B cs fuel listed ⟨L, H, S, wf⟩ := by
  subst hT
  exact fun a w hs hw => h a w hs (hw.perm hp.perm)
theorem SC.close' {α : Type} {E : Enc α} {e g c n : Nat} {T : List Value} {code : Code} (l : List α) (hp : Pick H (cel g T e) R) (hT : T.take (l.length * E.sz) = flat E l) (hn : l.length = n) (hle : n ≤ c) (hm : c ≤ maxLen) (hlen : T.length = c * E.sz)
    (h : SC V P Q N code ⟨L, rw_ E e (.slice (some ⟨g, 0, none⟩) n c) l :: R, S, wf⟩) : SC V P Q N code ⟨L, H, S, wf⟩ := by
  subst hn
  refine SC.close l (T.drop (l.length * E.sz)) hp ?_ hle hm hlen h
  rw [← hT]; exact (List.take_append_drop _ _).symm
/-- A row of the call's own and a block of it are two. -/
theorem apart_row {α : Type} {E : Enc α} {a b ea eb n c : Nat} {m : List α} {lb : List Value} {R1 R2 : List Res} (h1 : Pick H (rw_ E ea (.slice (some ⟨a, 0, none⟩) n c) m) R1) (h2 : Pick R1 (cel b lb eb) R2) (hlb : 0 < lb.length) :
    ∀ w, WW V S wf H w → ∃ la lb ea eb, w.heap[a]? = some (.cells la ea (0, 0)) ∧ w.heap[b]? = some (.cells lb eb (0, 0)) ∧ a ≠ b ∧ lb.size ≠ 0 := fun w hw => by
  have hw' := hw.perm (h1.perm.trans (List.Perm.cons _ h2.perm))
  have hr := rw_holds.1 (hw'.has _ (List.mem_cons_self ..))
  rcases hr with ⟨h, _⟩ | ⟨g, cap, cur, h, hb, _⟩
  · cases h
  · injection h with h _ _
    injection h with h
    injection h with h
    subst h
    refine ⟨cur, lb.toArray, _, eb, hb, hw'.has _ (List.mem_cons_of_mem _ (List.mem_cons_self ..)), ?_, by simpa using Nat.ne_of_gt hlb⟩
    have := hw'.nd
    rintro rfl
    simp [feet, blk, rw_, row, Value.ownBlock] at this
/-- A block and a row of the call's own are two. -/
theorem apart_row' {α : Type} {E : Enc α} {a b ea eb n c : Nat} {m : List α} {la : List Value} {R1 R2 : List Res} (h1 : Pick H (rw_ E eb (.slice (some ⟨b, 0, none⟩) n c) m) R1) (h2 : Pick R1 (cel a la ea) R2) (hlb : 0 < m.length) :
    ∀ w, WW V S wf H w → ∃ la lb ea eb, w.heap[a]? = some (.cells la ea (0, 0)) ∧ w.heap[b]? = some (.cells lb eb (0, 0)) ∧ a ≠ b ∧ lb.size ≠ 0 := fun w hw => by
  have hw' := hw.perm (h1.perm.trans (List.Perm.cons _ h2.perm))
  have hr := rw_holds.1 (hw'.has _ (List.mem_cons_self ..))
  rcases hr with ⟨h, _⟩ | ⟨g, cap, cur, h, hb, hle, _, hsz, _⟩
  · cases h
  · injection h with h _ _
    injection h with h
    injection h with h
    subst h
    refine ⟨la.toArray, cur, ea, _, hw'.has _ (List.mem_cons_of_mem _ (List.mem_cons_self ..)), hb, ?_, ?_⟩
    · have := hw'.nd
      rintro rfl
      simp [feet, blk, rw_, row, Value.ownBlock] at this
    · rw [hsz]; exact Nat.ne_of_gt (Nat.mul_pos (by omega) E.pos)
theorem SP.close' {α : Type} {E : Enc α} {e g c n : Nat} {T : List Value} (l : List α) (hp : Pick H (cel g T e) R) (hT : T.take (l.length * E.sz) = flat E l) (hn : l.length = n) (hle : n ≤ c) (hm : c ≤ maxLen) (hlen : T.length = c * E.sz)
    (h : SP V P Q ops N rest ⟨L, rw_ E e (.slice (some ⟨g, 0, none⟩) n c) l :: R, S, wf⟩) : SP V P Q ops N rest ⟨L, H, S, wf⟩ := by
  subst hn
  refine SP.close l (T.drop (l.length * E.sz)) hp ?_ hle hm hlen h
  rw [← hT]; exact (List.take_append_drop _ _).symm
end

section
variable {α : Type} {E : Enc α} {l : List α} {T sp : List Value}
theorem cut_flat {i p : Nat} (hT : T.take (l.length * E.sz) = flat E l) (hp : i * E.sz = p) (hi : i ≤ l.length) : (T.drop p).take (flat E (l.drop i)).length = flat E (l.drop i) := by
  subst hp
  rw [flat_length, ← flat_drop, ← hT, List.drop_take, List.length_drop, Nat.sub_mul]
theorem head_flat {i p : Nat} (hT : T.take (l.length * E.sz) = flat E l) (hp : i * E.sz = p) (hi : i ≤ l.length) : T.take p = flat E (l.take i) := by
  subst hp
  rw [← flat_take, ← hT, List.take_take, Nat.min_eq_left (Nat.mul_le_mul_right _ hi)]
theorem cut_ok {i c : Nat} (h : l.length ≤ c) : flat E (l.drop i) = [] ∨ i < c := by
  by_cases hi : i < c
  · exact .inr hi
  · exact .inl (by rw [List.drop_of_length_le (by omega)]; rfl)
theorem pre_flat (hT : T = flat E l ++ sp) : T.take (l.length * E.sz) = flat E l := by
  subst hT; rw [← flat_length E l]; exact List.take_left
theorem all_flat (E : Enc α) (l : List α) : (flat E l).all (·.oneCell') = true := List.all_eq_true.2 (flat_one E l)
end
end Go.SX
