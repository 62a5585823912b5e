/- Slices of slices, copies, and what is laid behind in place. -/
import Derived.Test.YthmkelkefmfmgaaSxDraw
set_option linter.unusedVariables false
set_option linter.unusedSimpArgs false
namespace Go.SX
open Go Go.RowKit

/-- Where a cut from l on begins. -/
def cutO (off c l sz : Nat) : Nat := if c = l then off else off + l * sz
def cutA (A : Option Addr) (c l sz : Nat) : Option Addr := if c = l then A else A.map (·.add (l * sz))
theorem cutA_some (b off c l sz : Nat) : cutA (some ⟨b, off, none⟩) c l sz = some ⟨b, cutO off c l sz, none⟩ := by
  unfold cutA cutO
  split
  · rfl
  · simp [add_at]
theorem cutO_lt {off c l sz : Nat} (h : l < c) : cutO off c l sz = off + l * sz := by unfold cutO; rw [if_neg (by omega)]
theorem cutO_zero {off c sz : Nat} : cutO off c 0 sz = off := by unfold cutO; split <;> simp

/-- A bound of a slice expression. -/
inductive Bd (L : List (Nat × Value)) : Option Operand → Nat → Nat → Prop where
  | n {d : Nat} : Bd L none d d
  | s {y : Operand} {k : IntKind} {i : Int} {d : Nat} : lk L y = some (.int k i) → 0 ≤ i → Bd L (some y) d i.toNat

section
variable {V : Env} {P : Program} {Q : Exit → Act → World → Prop} {ops : Array Oper} {N : Nat} {o : Oper} {rest : List Oper} {L : List (Nat × Value)} {H R : List Res} {S : Nat → Prop} {wf : World} {K : St → Prop} {st : St} {C : World → Prop}

theorem Bd.known {x : Option Operand} {d r : Nat} (h : Bd L x d r) : ∀ y ∈ x, known L y = true := by
  cases h with
  | n => intro y hy; cases hy
  | s h _ => intro y hy; cases hy; exact known_of h

theorem Bd.bound {x : Option Operand} {d r : Nat} (h : Bd L x d r) (y : Nat) (hr : r ≤ y) (code : BoundsCode) (w : World) (z : Operand) (hz : x = some z) :
    (Instr.sliceBound (ev L z) y code).run P w = .ok r w := by
  subst hz
  cases h with
  | s h h0 => 
    rename_i k i
    have h2 : i ≤ (y : Int) := by omega
    simp [Instr.sliceBound, ev_of h, asIntOf, h0, h2]

theorem ev_slc {t e : TypeId} {x : Operand} {lo hi : Option Operand} {A : Option Addr} {n c l h sz : Nat} {ag : Bool} (ho : o.op = .slice t x lo hi none) (hu : P.underlying t = some (.slice e)) (hs : ty P e = some (ag, sz))
    (hx : lk L x = some (.slice A n c)) (hlo : Bd L lo 0 l) (hhi : Bd L hi n h) (h1 : l ≤ h) (h2 : h ≤ c) : Ev P C L o (.slice (cutA A c l sz) (h - l) (c - l)) := by
  refine ⟨by simp [ho, noSel], ?_, fun w _ => ?_⟩
  · rw [ho]
    refine Array.all_eq_true_iff_forall_mem.2 fun y hy => ?_
    simp only [Op.operands, Array.mem_append, Option.mem_toArray] at hy
    rcases hy with ((hy | hy) | hy) | hy
    · simp at hy; subst hy; exact known_of hx
    · exact hlo.known y hy
    · exact hhi.known y hy
    · cases hy
  · obtain ⟨d, inf, _, hi', _, rfl⟩ := ty_spec hs
    have hb : (Instr.sliceBounds true n c (lo.map (ev L)) (hi.map (ev L)) none).run P w = .ok (l, h, c) w := by
      unfold Instr.sliceBounds
      cases hi with
      | none =>
        cases hhi
        cases lo with
        | none => cases hlo; simp
        | some y =>
          have e1 := hlo.bound (P := P) n h1 .sliceB w y rfl
          simp [e1]
      | some z =>
        have e2 := hhi.bound (P := P) c h2 .sliceAcap w z rfl
        cases lo with
        | none => cases hlo; simp [e2]
        | some y =>
          have e1 := hlo.bound (P := P) h h1 .sliceB w y rfl
          simp [e1, e2]
    simp [execOp, ho, ev_of hx, Instr.sliceAt, run_underlying hu, Instr.slice, hb, sizeOf, typeInfo, hi', cutA]


/-- The same with a third bound: that it may be carried out. -/
theorem ev_slc3 {t e : TypeId} {x : Operand} {lo hi : Option Operand} {z : Operand} {A : Option Addr} {n c l h m sz : Nat} {ag : Bool} (ho : o.op = .slice t x lo hi (some z)) (hu : P.underlying t = some (.slice e)) (hs : ty P e = some (ag, sz))
    (hx : lk L x = some (.slice A n c)) (hlo : Bd L lo 0 l) {y : Operand} (hh : hi = some y) (hhi : Bd L hi n h) (hmx : Bd L (some z) c m) (h1 : l ≤ h) (h2 : h ≤ m) (h3 : m ≤ c) : Ev P C L o (.slice (cutA A m l sz) (h - l) (m - l)) := by
  refine ⟨by simp [ho, noSel], ?_, fun w _ => ?_⟩
  · rw [ho]
    refine Array.all_eq_true_iff_forall_mem.2 fun y hy => ?_
    simp only [Op.operands, Array.mem_append, Option.mem_toArray] at hy
    rcases hy with ((hy | hy) | hy) | hy
    · simp at hy; subst hy; exact known_of hx
    · exact hlo.known y hy
    · exact hhi.known y hy
    · exact hmx.known y hy
  · obtain ⟨d, inf, _, hi', _, rfl⟩ := ty_spec hs
    subst hh
    have e3 := hmx.bound (P := P) c h3 .slice3Acap w z rfl
    have e2 := hhi.bound (P := P) m h2 .slice3B w y rfl
    have hb : (Instr.sliceBounds true n c (lo.map (ev L)) ((some y).map (ev L)) ((some z).map (ev L))).run P w = .ok (l, h, m) w := by
      unfold Instr.sliceBounds
      cases lo with
      | none => cases hlo; simp [e2, e3]
      | some y' =>
        have e1 := hlo.bound (P := P) h h1 .slice3C w y' rfl
        simp [e1, e2, e3]
    simp only [Option.map_some] at hb
    simp [execOp, ho, ev_of hx, Instr.sliceAt, run_underlying hu, Instr.slice, hb, sizeOf, typeInfo, hi', cutA]

/-- A string's part. -/
theorem ev_sls {t : TypeId} {x : Operand} {lo hi : Option Operand} {s : ByteArray} {l h : Nat} (ho : o.op = .slice t x lo hi none) (hu : P.underlying t = some .string)
    (hx : lk L x = some (.string s)) (hlo : Bd L lo 0 l) (hhi : Bd L hi s.size h) (h1 : l ≤ h) (h2 : h ≤ s.size) : Ev P C L o (.string (s.extract l h)) := by
  refine ⟨by simp [ho, noSel], ?_, fun w _ => ?_⟩
  · rw [ho]
    refine Array.all_eq_true_iff_forall_mem.2 fun y hy => ?_
    simp only [Op.operands, Array.mem_append, Option.mem_toArray] at hy
    rcases hy with ((hy | hy) | hy) | hy
    · simp at hy; subst hy; exact known_of hx
    · exact hlo.known y hy
    · exact hhi.known y hy
    · cases hy
  · have hb : (Instr.sliceBounds false s.size s.size (lo.map (ev L)) (hi.map (ev L)) none).run P w = .ok (l, h, s.size) w := by
      unfold Instr.sliceBounds
      cases hi with
      | none =>
        cases hhi
        cases lo with
        | none => cases hlo; simp
        | some y =>
          have e1 := hlo.bound (P := P) s.size h1 .sliceB w y rfl
          simp [e1]
      | some z =>
        have e2 := hhi.bound (P := P) s.size h2 .sliceAlen w z rfl
        cases lo with
        | none => cases hlo; simp [e2]
        | some y =>
          have e1 := hlo.bound (P := P) h h1 .sliceB w y rfl
          simp [e1, e2]
    simp [execOp, ho, ev_of hx, Instr.sliceAt, run_underlying hu, Instr.slice, hb]

/-- Where nothing is, anything stands. -/
theorem At.none (w : World) (b off : Nat) : At w b off [] := fun j u hu => by simp at hu
/-- A cut's cells. -/
theorem At.cut {w : World} {b off c l sz : Nat} {cs : List Value} (h : At w b (off + l * sz) cs) (hc : cs = [] ∨ l < c) : At w b (cutO off c l sz) cs := by
  rcases hc with rfl | hc
  · exact .none _ _ _
  · rw [cutO_lt hc]; exact h

theorem run_loadCells_at {w : World} {b off : Nat} {cs : List Value} {k : Nat} (h : At w b off cs) (hk : cs.length = k) : (loadCells ⟨b, off, none⟩ k).run P w = .ok cs.toArray w := by
  subst hk
  exact run_loadCells_list (P := P) w ⟨b, off, none⟩ cs (fun j v hv => by rw [add_at]; exact h j v hv)

/-- copy into an owned block. -/
theorem st_copy {t t' e e' : TypeId} {x y : Operand} {g off nd cd : Nat} {bs os ns c' sz k : Nat} {ag : Bool} {l cells l' : List Value} {d : Nat} (ho : o.op = .call { callee := .builtin .copy, args := #[x, y], argTypes := #[t, t'] }) (hg : o.guard = none) (hd : o.dst = some d) (hdN : Nat.blt d N = true)
    (hu : P.underlying t = some (.slice e)) (hs : ty P e = some (ag, sz)) (hx : lk L x = some (.slice (some ⟨g, off, none⟩) nd cd)) (hy : lk L y = some (.slice (some ⟨bs, os, none⟩) ns c'))
    (hk : Nat.min ns nd = k) (hc : cells.length = k * sz) (h1 : cells.all (·.oneCell') = true) (hm : ∀ w, WW V S wf H w → At w bs os cells) (hp : Pick H (cel g l e') R) (hle : off + cells.length ≤ l.length)
    (hl : l.take off ++ cells ++ l.drop (off + cells.length) = l') (k : K ⟨(d, .int .i64 (k : Int)) :: L, cel g l' e' :: R, S, wf⟩) : OpStep V P Q ops N o ⟨L, H, S, wf⟩ K :=
  .act hg hd hdN (by simp [ho, noSel]) (by simp [ho, Op.operands, Call.operands, known_of hx, known_of hy]) fun w hw => by
    obtain ⟨_, inf, _, hi', _, rfl⟩ := ty_spec hs
    subst hl
    have hw' := hw.perm hp.perm
    have hb : w.heap[g]? = some (.cells l.toArray e' (0, 0)) := hw'.has _ (List.mem_cons_self ..)
    have hst := run_storeCells_at P g off e' cells 0 l.toArray w hb (by simpa using hle) (List.all_eq_true.1 h1)
    simp only [Nat.add_zero] at hst
    have hld := run_loadCells_at (P := P) (hm w hw) hc
    refine ⟨_, _, _, by simp [execOp, ho, ev_of hx, ev_of hy, resolve, invoke, builtin, Builtin.copy_, run_underlying hu, Builtin.lenOf, hk, sizeOf, typeInfo, hi', Builtin.firstCells, hld, hst, goInt]; rfl, ?_, k⟩
    refine WW.change (C := [cel g l e']) (R := R) (C' := [cel g _ e']) hw' (fun b' _ hn => setRow_other w g b' _ (by simpa [blk] using hn)) (by simp) ?_ (by simp [blk]) (fun b' hb' => .inl (by simpa [blk] using hb')) rfl rfl rfl
    intro r hr
    simp only [List.mem_singleton] at hr
    subst hr
    refine (setRow_heap w g _ _ e' _ hb).trans ?_
    simp

/-- append in place: there is room. -/
theorem st_approom {t e e' : TypeId} {x y : Operand} {g n c bs os m c' sz : Nat} {ag : Bool} {l cells l' : List Value} {d : Nat} (ho : o.op = .call { callee := .builtin .append, args := #[x, y], argTypes := #[t, t] }) (hg : o.guard = none) (hd : o.dst = some d) (hdN : Nat.blt d N = true)
    (hu : P.underlying t = some (.slice e)) (hs : ty P e = some (ag, sz)) (hx : lk L x = some (.slice (some ⟨g, 0, none⟩) n c)) (hy : lk L y = some (.slice (some ⟨bs, os, none⟩) m c'))
    (hroom : n + m ≤ c) (hc : cells.length = m * sz) (h1 : cells.all (·.oneCell') = true) (hm : ∀ w, WW V S wf H w → At w bs os cells) (hp : Pick H (cel g l e') R) (hle : n * sz + cells.length ≤ l.length)
    (hl : l.take (n * sz) ++ cells ++ l.drop (n * sz + cells.length) = l') (k : K ⟨(d, .slice (some ⟨g, 0, none⟩) (n + m) c) :: L, cel g l' e' :: R, S, wf⟩) : OpStep V P Q ops N o ⟨L, H, S, wf⟩ K :=
  .act hg hd hdN (by simp [ho, noSel]) (by simp [ho, Op.operands, Call.operands, known_of hx, known_of hy]) fun w hw => by
    obtain ⟨_, inf, hue, hi', _, rfl⟩ := ty_spec hs
    subst hl
    have hw' := hw.perm hp.perm
    have hb : w.heap[g]? = some (.cells l.toArray e' (0, 0)) := hw'.has _ (List.mem_cons_self ..)
    have hst := run_storeCells_at P g (n * inf.size) e' cells 0 l.toArray w hb (by simpa using hle) (List.all_eq_true.1 h1)
    simp only [Nat.add_zero] at hst
    have hld := run_loadCells_at (P := P) (hm w hw) hc
    refine ⟨_, _, _, by simp [execOp, ho, ev_of hx, ev_of hy, resolve, invoke, builtin, Builtin.append_, run_underlying hu, Builtin.lenOf, hroom, sizeOf, typeInfo, hi', Builtin.firstCells, hld, hst, add_at]; rfl, ?_, k⟩
    refine WW.change (C := [cel g l e']) (R := R) (C' := [cel g _ e']) hw' (fun b' _ hn => setRow_other w g b' _ (by simpa [blk] using hn)) (by simp) ?_ (by simp [blk]) (fun b' hb' => .inl (by simpa [blk] using hb')) rfl rfl rfl
    intro r hr
    simp only [List.mem_singleton] at hr
    subst hr
    refine (setRow_heap w g _ _ e' _ hb).trans ?_
    simp

end
end Go.SX
