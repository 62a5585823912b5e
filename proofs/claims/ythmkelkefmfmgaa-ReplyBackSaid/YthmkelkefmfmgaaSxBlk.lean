/- Owned rows laid open as blocks. -/
import Derived.Test.YthmkelkefmfmgaaSxOwn
import Derived.Lib.Overlaps
set_option linter.unusedVariables false
set_option linter.unusedSimpArgs false
namespace Go.SX
open Go Go.RowKit Go.Lib

section
variable {V : Env} {P : Program} {Q : Exit → Act → World → Prop} {ops : Array Oper} {N : Nat} {o : Oper} {rest : List Oper} {L : List (Nat × Value)} {H R : List Res} {S : Nat → Prop} {wf : World} {K : St → Prop} {st : St} {C : World → Prop}

theorem WW.open {α : Type} {E : Enc α} {e n c : Nat} {A : Option Addr} {l : List α} {w : World} (hp : Pick H (rw_ E e (.slice A n c) l) R) (hw : WW V S wf H w) :
    (A = none ∧ n = 0 ∧ c = 0 ∧ l = [] ∧ WW V S wf R w) ∨ ∃ g sp, A = some ⟨g, 0, none⟩ ∧ n = l.length ∧ l.length ≤ c ∧ c ≤ maxLen ∧ sp.length + l.length * E.sz = c * E.sz ∧ WW V S wf (cel g (flat E l ++ sp) e :: R) w := by
  have hw' := hw.perm hp.perm
  have hh := hw'.has _ (List.mem_cons_self ..)
  rcases rw_holds.1 hh with ⟨h1, rfl⟩ | ⟨g, cap, cur, h1', h2, h3, h4, h5, h6⟩
  · injection h1 with h1 h2 h3
    exact .inl ⟨h1, h2, h3, rfl, WW.drop (C := [_]) hw'⟩
  · injection h1' with h1 h7 h8
    subst h1 h7 h8
    have hlen : (flat E l).length = l.length * E.sz := flat_length E l
    have hcl : cur.toList.length = c * E.sz := by simpa using h5
    have hle : l.length * E.sz ≤ c * E.sz := Nat.mul_le_mul_right _ h3
    refine .inr ⟨g, cur.toList.drop (l.length * E.sz), rfl, rfl, h3, h4, by rw [List.length_drop, hcl]; omega, ?_⟩
    have e1 : flat E l ++ cur.toList.drop (l.length * E.sz) = cur.toList := by rw [← h6]; exact List.take_append_drop _ _
    rw [e1]
    refine WW.change (C := [rw_ E e (.slice (some ⟨g, 0, none⟩) l.length c) l]) (R := R) (C' := [cel g cur.toList e]) hw' (fun _ _ _ => rfl) (Nat.le_refl _) ?_ (by simp [blk]) (fun b hb => .inl (by simpa [blk, rw_, row, Value.ownBlock] using hb)) rfl rfl rfl
    intro r hr
    simp only [List.mem_singleton] at hr
    subst hr
    show w.heap[g]? = some (.cells cur.toList.toArray e (0, 0))
    simpa using h2

theorem SP.open {α : Type} {E : Enc α} {e n c : Nat} {A : Option Addr} {l : List α} (hp : Pick H (rw_ E e (.slice A n c) l) R)
    (h0 : A = none → n = 0 → c = 0 → l = [] → SP V P Q ops N rest ⟨L, R, S, wf⟩)
    (h1 : ∀ g sp, A = some ⟨g, 0, none⟩ → n = l.length → l.length ≤ c → c ≤ maxLen → sp.length + l.length * E.sz = c * E.sz → SP V P Q ops N rest ⟨L, cel g (flat E l ++ sp) e :: R, S, wf⟩) : SP V P Q ops N rest ⟨L, H, S, wf⟩ := by
  intro a w hs hw
  rcases WW.open hp hw with ⟨k1, k2, k3, k4, k5⟩ | ⟨g, sp, k1, k2, k3, k4, k5, k6⟩
  · exact h0 k1 k2 k3 k4 a w hs k5
  · exact h1 g sp k1 k2 k3 k4 k5 a w hs k6
theorem SC.open {α : Type} {E : Enc α} {e n c : Nat} {A : Option Addr} {l : List α} {code : Code} (hp : Pick H (rw_ E e (.slice A n c) l) R)
    (h0 : A = none → n = 0 → c = 0 → l = [] → SC V P Q N code ⟨L, R, S, wf⟩)
    (h1 : ∀ g sp, A = some ⟨g, 0, none⟩ → n = l.length → l.length ≤ c → c ≤ maxLen → sp.length + l.length * E.sz = c * E.sz → SC V P Q N code ⟨L, cel g (flat E l ++ sp) e :: R, S, wf⟩) : SC V P Q N code ⟨L, H, S, wf⟩ := by
  intro a w hs hw
  rcases WW.open hp hw with ⟨k1, k2, k3, k4, k5⟩ | ⟨g, sp, k1, k2, k3, k4, k5, k6⟩
  · exact h0 k1 k2 k3 k4 a w hs k5
  · exact h1 g sp k1 k2 k3 k4 k5 a w hs k6

theorem WW.close {α : Type} {E : Enc α} {e g c : Nat} {T : List Value} (l : List α) (sp : List Value) {w : World} (hp : Pick H (cel g T e) R) (hT : T = flat E l ++ sp) (hle : l.length ≤ c) (hm : c ≤ maxLen) (hlen : T.length = c * E.sz) (hw : WW V S wf H w) :
    WW V S wf (rw_ E e (.slice (some ⟨g, 0, none⟩) l.length c) l :: R) w := by
  have hw' := hw.perm hp.perm
  have hb : w.heap[g]? = some (.cells T.toArray e (0, 0)) := hw'.has _ (List.mem_cons_self ..)
  refine WW.change (C := [cel g T e]) (R := R) (C' := [rw_ E e (.slice (some ⟨g, 0, none⟩) l.length c) l]) hw' (fun _ _ _ => rfl) (Nat.le_refl _) ?_ (by simp [rw_, row, Value.ownBlock]) (fun b hb => .inl (by simpa [blk, rw_, row, Value.ownBlock] using hb)) rfl rfl rfl
  intro r hr
  simp only [List.mem_singleton] at hr
  subst hr
  refine rw_holds.2 (.inr ⟨g, c, _, rfl, hb, hle, hm, by simpa using hlen, ?_⟩)
  rw [hT, ← flat_length E l]
  exact List.take_left
theorem SP.close {α : Type} {E : Enc α} {e g c : Nat} {T : List Value} (l : List α) (sp : List Value) (hp : Pick H (cel g T e) R) (hT : T = flat E l ++ sp) (hle : l.length ≤ c) (hm : c ≤ maxLen) (hlen : T.length = c * E.sz)
    (h : SP V P Q ops N rest ⟨L, rw_ E e (.slice (some ⟨g, 0, none⟩) l.length c) l :: R, S, wf⟩) : SP V P Q ops N rest ⟨L, H, S, wf⟩ := fun a w hs hw => h a w hs (WW.close l sp hp hT hle hm hlen hw)
theorem SC.close {α : Type} {E : Enc α} {e g c : Nat} {T : List Value} {code : Code} (l : List α) (sp : List Value) (hp : Pick H (cel g T e) R) (hT : T = flat E l ++ sp) (hle : l.length ≤ c) (hm : c ≤ maxLen) (hlen : T.length = c * E.sz)
    (h : SC V P Q N code ⟨L, rw_ E e (.slice (some ⟨g, 0, none⟩) l.length c) l :: R, S, wf⟩) : SC V P Q N code ⟨L, H, S, wf⟩ := fun a w hs hw => h a w hs (WW.close l sp hp hT hle hm hlen hw)
/-- The block's cells, said otherwise. -/
theorem SP.recel {g e : Nat} {T T' : List Value} (hp : Pick H (cel g T e) R) (hT : T = T') (h : SP V P Q ops N rest ⟨L, cel g T' e :: R, S, wf⟩) : SP V P Q ops N rest ⟨L, H, S, wf⟩ := by
  subst hT
  exact fun a w hs hw => h a w hs (hw.perm hp.perm)
theorem SC.recel {g e : Nat} {T T' : List Value} {code : Code} (hp : Pick H (cel g T e) R) (hT : T = T') (h : SC V P Q N code ⟨L, cel g T' e :: R, S, wf⟩) : SC V P Q N code ⟨L, H, S, wf⟩ := by
  subst hT
  exact fun a w hs hw => h a w hs (hw.perm hp.perm)

/-- A slice of a block, cut. -/
theorem ev_slcs {t e : TypeId} {x : Operand} {lo hi : Option Operand} {b off n c l h sz : Nat} {ag : Bool} (ho : o.op = .slice t x lo hi none) (hu : P.underlying t = some (.slice e)) (hs : ty P e = some (ag, sz))
    (hx : lk L x = some (.slice (some ⟨b, off, none⟩) n c)) (hlo : Bd L lo 0 l) (hhi : Bd L hi n h) (h1 : l ≤ h) (h2 : h ≤ c) : Ev P C L o (.slice (some ⟨b, cutO off c l sz, none⟩) (h - l) (c - l)) := by
  have := ev_slc (C := C) ho hu hs hx hlo hhi h1 h2
  rwa [cutA_some] at this

/-- clear of a part of a block. -/
theorem st_clear {t e e' : TypeId} {x : Operand} {g off n c sz : Nat} {ag : Bool} {l l' z : List Value} (ho : o.op = .call { callee := .builtin .clear, args := #[x], argTypes := #[t] }) (hg : o.guard = none) (hd : o.dst = none)
    (hu : P.underlying t = some (.slice e)) (hs : ty P e = some (ag, sz)) (hz : (P.info? e).bind (fun i => i.zero.map Value.cells) = some z.toArray) (hz1 : z.all (·.oneCell') = true) (hzl : z.length = sz) (hx : lk L x = some (.slice (some ⟨g, off, none⟩) n c))
    (hp : Pick H (cel g l e') R) (hle : n = 0 ∨ off + n * sz ≤ l.length) (k : ∀ zs : List Value, zs.length = n * sz → K ⟨L, cel g (if n = 0 then l else l.take off ++ zs ++ l.drop (off + n * sz)) e' :: R, S, wf⟩) : OpStep V P Q ops N o ⟨L, H, S, wf⟩ K := by
  intro a w hs' hw J hJ
  unfold Step1
  rw [if_pos (by simp [Region.wanted, hg])]
  refine .inl ?_
  obtain ⟨_, inf, _, hi', _, rfl⟩ := ty_spec hs
  obtain ⟨i, hi, hz⟩ := Option.bind_eq_some_iff.1 hz
  obtain ⟨zv, hz2, hz3⟩ := Option.map_eq_some_iff.1 hz
  have hii : inf = i := by rw [hi'] at hi; exact Option.some.inj hi
  subst hii
  have hw' := hw.perm hp.perm
  have hb : w.heap[g]? = some (.cells l.toArray e' (0, 0)) := hw'.has _ (List.mem_cons_self ..)
  unfold Oper.wp
  rw [exec_ev hs' (by simp [ho, noSel]) (by simp [ho, Op.operands, Call.operands, known_of hx])]
  by_cases hn : n = 0
  · subst hn
    have hr : (execOp (ev L) o).run P w = .ok (.value (.tuple #[])) w := by
      simp [execOp, ho, ev_of hx, resolve, invoke, builtin, Builtin.clear_, run_underlying hu]
    rw [hr, Oper.upon_value, hd]
    have := k [] (by simp)
    simp only [if_true] at this
    exact hJ _ this _ _ hs' hw'
  · have hle' := hle.resolve_left hn
    have hzs : (Builtin.zeroCells z.toArray n).toList.length = n * inf.size := by simp [Builtin.zeroCells, hzl]
    have hz1' : ∀ u ∈ (Builtin.zeroCells z.toArray n).toList, u.oneCell' = true := by
      intro u hu
      simp only [Builtin.zeroCells, List.size_toArray, Array.toList_map, List.mem_map, Array.toList_range, List.mem_range] at hu
      obtain ⟨j, hj, rfl⟩ := hu
      have hpos : 0 < z.length := by
        rcases Nat.eq_zero_or_pos z.length with h0 | h0
        · rw [h0] at hj; simp at hj
        · exact h0
      have hlt : j % z.length < z.length := Nat.mod_lt _ hpos
      have : z.toArray[j % z.length]! = z[j % z.length] := by simp [hlt]
      rw [this]
      exact (List.all_eq_true.1 hz1) _ (List.getElem_mem hlt)
    have hst := run_storeCells_at P g off e' (Builtin.zeroCells z.toArray n).toList 0 l.toArray w hb (by rw [hzs]; simpa using hle') hz1'
    simp only [Nat.add_zero] at hst
    obtain ⟨m, rfl⟩ : ∃ m, n = m + 1 := ⟨n - 1, by omega⟩
    have hr : (execOp (ev L) o).run P w = .ok (.value (.tuple #[])) (w.setRow g (List.take off l.toArray.toList ++ (Builtin.zeroCells z.toArray (m + 1)).toList ++ List.drop (off + (Builtin.zeroCells z.toArray (m + 1)).toList.length) l.toArray.toList).toArray) := by
      simp [execOp, ho, ev_of hx, resolve, invoke, builtin, Builtin.clear_, run_underlying hu, zeroValue, typeInfo, hi', hz2, hz3] 
      simp at hst
      rw [hst]
      rfl
    rw [hr, Oper.upon_value, hd]
    have := k _ hzs
    rw [if_neg hn] at this
    refine hJ _ this _ _ hs' ?_
    refine WW.change (C := [cel g l e']) (R := R) (C' := [cel g _ e']) hw' (fun b' _ hn => setRow_other w g b' _ (by simpa [blk] using hn)) (by simp) ?_ (by simp [blk]) (fun b' hb' => .inl (by simpa [blk] using hb')) rfl rfl rfl
    intro r hr
    simp only [List.mem_singleton] at hr
    subst hr
    refine (setRow_heap w g _ _ e' _ hb).trans ?_
    rw [hzs]

/-- Two slices in two blocks of the call's own don't overlap. -/
theorem ev_apart {f : FuncId} {x y : Operand} {ts : Array TypeId} {tS tR e : TypeId} {sz a oa na ca b ob nb cb : Nat} {ag : Bool} (ho : o.op = .call { callee := .value (.func f), args := #[x, y], argTypes := ts })
    (hf : ∀ (args : Array Value) (w : World), (callFunc f args).run P w = (Extern.SlicesOverlaps.overlaps #[tS, tS] #[tR] args >>= fun v => pure (Next.value v) : Sem Next).run P w)
    (hu : P.underlying tS = some (.slice e)) (hs : ty P e = some (ag, sz)) (hx : lk L x = some (.slice (some ⟨a, oa, none⟩) na ca)) (hy : lk L y = some (.slice (some ⟨b, ob, none⟩) nb cb))
    (hab : ∀ w, C w → ∃ la lb ea eb, w.heap[a]? = some (.cells la ea (0, 0)) ∧ w.heap[b]? = some (.cells lb eb (0, 0)) ∧ a ≠ b ∧ lb.size ≠ 0) : Ev P C L o (.bool false) :=
  ⟨by simp [ho, noSel], by
    rw [ho]
    have h0 : known L (.func f) = true := rfl
    simp [Op.operands, Call.operands, h0, known_of hx, known_of hy], fun w hw => by
    obtain ⟨la, lb, ea, eb, h1, h2, h3, h4⟩ := hab w hw
    obtain ⟨_, inf, _, hi', _, rfl⟩ := ty_spec hs
    have hrun := run_overlaps_apart (P := P) w tS tR e hu inf.size (fun w => by simp [sizeOf, typeInfo, hi']) ⟨a, oa, none⟩ ⟨b, ob, none⟩ na ca nb cb h3 ea eb la.size lb.size (by simp [World.shape?, h1]) (by simp [World.shape?, h2]) h4
      (by simp [World.frozen?, h1]) (by simp [World.frozen?, h1])
    have e1 : execOp (ev L) o = callFunc f #[.slice (some ⟨a, oa, none⟩) na ca, .slice (some ⟨b, ob, none⟩) nb cb] := by
      have h0 : ev L (.func f) = .func (.func f) #[] #[] := rfl
      simp [execOp, ho, resolve, h0, ev_of hx, ev_of hy, Deferred.ofValue, invoke]
    rw [e1, hf, Sem.run_bind]
    erw [hrun]
    rfl⟩
end
end Go.SX
