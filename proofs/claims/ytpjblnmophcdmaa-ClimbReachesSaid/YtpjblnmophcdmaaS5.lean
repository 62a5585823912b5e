import Derived.Test.YtpjblnmophcdmaaProg
import Derived.Test.YtpjblnmophcdmaaS4
set_option linter.unusedVariables false
set_option linter.unusedSimpArgs false
set_option linter.unusedSectionVars false
namespace Go.SX
open Go Go.RowKit
open Go.ChangeMaps (setBlock)
section
variable {V : Env} {P : Program} {Q : Exit → Act → World → Prop} {ops : Array Oper} {N : Nat} {o : Oper} {rest : List Oper} {L : List (Nat × Value)} {H R : List Res} {S : Nat → Prop} {wf : World} {K : St → Prop} {st : St} {C : World → Prop}
theorem OpStep.viafirst {x : Operand} {f : FuncId} {r : Value} {args args' : Array Operand} {ts : Array TypeId} (ho : o.op = .call { callee := .value x, args := args, argTypes := ts }) (hx : lk st.L x = some (.func (.func f) #[r] #[])) (ha : args' = #[.const r] ++ args)
    (h : OpStep V P Q ops N (named o f args' ts) st K) : OpStep V P Q ops N o st K := by
  intro a w hs hw J hJ
  have h1 := h a w hs hw J hJ
  have he : a.eval x = .func (.func f) #[r] #[] := hs.eval hx
  have hf : a.eval (.func f) = .func (.func f) #[] #[] := rfl
  have hr : a.eval (.const r) = r := rfl
  have hop : execOp a.eval o = execOp a.eval (named o f args' ts) := by
    subst ha
    simp only [execOp, ho, named, resolve, he, hf, Deferred.ofValue, invoke, Array.map_append]
    simp [hr]
  unfold Step1 at h1 ⊢
  have hwt : Region.wanted (named o f args' ts) (yielded ops a.tmps) = Region.wanted o (yielded ops a.tmps) := rfl
  have hwp : (named o f args' ts).wp P a w J Q = o.wp P a w J Q := by
    unfold Oper.wp; rw [hop]; rfl
  have has : (named o f args' ts).asks P a w = o.asks P a w := by
    unfold Oper.asks; rw [hop]
  rw [hwt, hwp, has] at h1
  exact h1
end
section
variable {V : Env} {P : Program} {Q : Exit → Act → World → Prop} {ops : Array Oper} {N : Nat} {o : Oper} {L : List (Nat × Value)} {H R : List Res} {S : Nat → Prop} {wf : World} {K : St → Prop} {α β : Type} [DecidableEq α] {vf : β → Value} {b : Nat} {m : List (α × β)} {x : α} {v : β}
theorem st_mapIns {t k e : TypeId} (E : KE P k α) {a s y : Operand} {u : Value} (ho : o.op = .insert t a s y) (hg : o.guard = none) (hd : o.dst = none) (hu : P.underlying t = some (.map k e))
    (ha : lk L a = some (.map (some b))) (hs : lk L s = some (E.f x)) (hy : lk L y = some (vf v)) (hp : Pick H (mp E.f vf b m) R)
    (kx : K ⟨L, mp E.f vf b (mset m x v) :: R, S, wf⟩) : OpStep V P Q ops N o ⟨L, H, S, wf⟩ K :=
  .eff hg hd (by simp [ho, noSel]) (by simp [ho, Op.operands, known_of ha, known_of hs, known_of hy]) fun w hw => by
    have hw' := hw.perm hp.perm
    obtain ⟨es, clock, hb, hM⟩ := hw'.has _ (List.mem_cons_self ..)
    rcases hM.find w x with ⟨h1, h2⟩ | ⟨j, e0, u, h1, h2, h3, h4, h5, h6, h7⟩
    · refine ⟨setBlock w b (.map (es.push ⟨E.f x, vf v, clock⟩) (clock + 1)), mp E.f vf b (mset m x v) :: R, ?_, hw'.setBlock rfl rfl hb ?_, kx⟩
      · simp [execOp, ho, ev_of ha, ev_of hs, ev_of hy, Instr.mapUpdate, run_underlying hu, MapKept.run_getObj_map hb, E.check, h1, MapKept.run_setObj_map _ hb, Result.andThen, setBlock]
      · have hm : mset m x v = m ++ [(x, v)] := by unfold mset; rw [if_neg (by simp [h2])]
        exact ⟨_, _, heap_setBlock_at hb, by rw [hm]; exact hM.push h2⟩
    · have hj : es[j]? = some e0 := by simpa using h2
      have hmod : es.modify j (fun e => { e with key := E.f x, val := vf v }) = es.modify j (fun e => { e with val := vf v }) := by
        apply Array.toList_inj.1
        rw [Array.toList_modify, Array.toList_modify, ChangeMaps.modify_eq_set _ _ _ _ h2, ChangeMaps.modify_eq_set _ _ _ _ h2, ← h3]
      refine ⟨setBlock w b (.map (es.modify j fun e => { e with key := E.f x, val := vf v }) clock), mp E.f vf b (mset m x v) :: R, ?_, hw'.setBlock rfl rfl hb ?_, kx⟩
      · simp [execOp, ho, ev_of ha, ev_of hs, ev_of hy, Instr.mapUpdate, run_underlying hu, MapKept.run_getObj_map hb, E.check, h1, hj, h3, run_stays E, MapKept.run_setObj_map _ hb, Result.andThen, setBlock]
      · rw [hmod]
        exact ⟨_, _, heap_setBlock_at hb, hM.set h2 h3 h4⟩
end
def anyR (r : Nat) : Res where
  foot := [r]
  holds w := ∃ o, w.heap[r]? = some o
  stable w w' h hw := by rw [h r (by simp)]; exact hw
  lt w h b' hb := by
    simp at hb; subst hb
    obtain ⟨o, h1⟩ := h
    exact lt_of_some h1
section
variable {V : Env} {P : Program} {Q : Exit → Act → World → Prop} {N : Nat} {L : List (Nat × Value)} {H R : List Res} {S : Nat → Prop} {wf : World} {α β : Type} {kf : α → Value} {vf : β → Value} {b r : Nat} {m left : List (α × β)} {cur : Option (α × β)}
theorem WW.unrng {w : World} (h : WW V S wf (mpr kf vf b r m left cur :: R) w) : WW V S wf (mp kf vf b m :: anyR r :: R) w := by
  refine WW.relist (A := [mpr kf vf b r m left cur]) (B := [mp kf vf b m, anyR r]) h (List.Perm.refl _) (fun hA x hx => ?_)
  obtain ⟨_, es, clock, since, seen, c0, h1, h2, h3, _⟩ := hA _ (List.mem_singleton.2 rfl)
  simp only [List.mem_cons, List.not_mem_nil, or_false] at hx
  rcases hx with rfl | rfl
  · exact ⟨es, clock, h1, h2⟩
  · exact ⟨_, h3⟩
theorem SC.unrng {c : Code} (hp : Pick H (mpr kf vf b r m left cur) R) (h : SC V P Q N c ⟨L, mp kf vf b m :: anyR r :: R, S, wf⟩) : SC V P Q N c ⟨L, H, S, wf⟩ := fun a w hs hw => h a w hs (WW.unrng (hw.perm hp.perm))
end
end Go.SX
namespace Go.SX
open Go Go.RowKit
structure LC (n : Int) (t R : List Int) (K : List LK) (U D : List IL) : Prop where
  hL : LOk R K U D
  hR : (R.length : Int) = n
  wy : WyB n t R K U D
  lo : ∀ x y, -1 ≤ tf n t x y
  su : SD n 4294967296000000 (gt R) (pkL R K U) LK.lt LK.lf
  sd : SD n 4294967296000000 (gt R) (pkL R K D) LK.lf LK.lt
  mu : ∀ p : Int, 0 ≤ p → p < n → ∀ k, k ∈ pkL R K U p ↔ isUp R K k ∧ k.lf = p
  md : ∀ p : Int, 0 ≤ p → p < n → ∀ k, k ∈ pkL R K D p ↔ isDn R K k ∧ k.lt = p
theorem lc {n : Int} {t fi : List Int} {ed : List EG} {R : List Int} {K : List LK} {U D : List IL} (hT : TabOk n t) (hG : GOk n t fi ed) (h : LftP n fi ed R K U D) : LC n t R K U D := by
  have hl := lok hT hG h
  have hw := wyb hT hG h
  have hr := rkf hT hG h
  have hn := hw.hn
  have mU : ∀ p : Int, 0 ≤ p → p < n → ∀ k ∈ pkL R K U p, isUp R K k := fun p p0 p1 k hk => (hw.up k).1 (mem_allP.2 ⟨p, p0, by omega, hk⟩)
  have mD : ∀ p : Int, 0 ≤ p → p < n → ∀ k ∈ pkL R K D p, isDn R K k := fun p p0 p1 k hk => (hw.dn k).1 (mem_allP.2 ⟨p, p0, by omega, hk⟩)
  refine ⟨hl.1, hl.2, hw, fun x y => (hT.rng _).1, ⟨hn, ⟨by decide, by decide⟩, fun p p0 p1 k hk => ?_, fun p p0 p1 => by have := hw.rk p p0 p1; omega, fun p p0 p1 => ?_⟩, ⟨hn, ⟨by decide, by decide⟩, fun p p0 p1 k hk => ?_, fun p p0 p1 => by have := hw.rk p p0 p1; omega, fun p p0 p1 => ?_⟩, fun p p0 p1 k => ⟨fun hk => ⟨mU p p0 p1 k hk, (hr.up p p0 p1 k hk).1⟩, fun ⟨h1, h2⟩ => ?_⟩, fun p p0 p1 k => ⟨fun hk => ⟨mD p p0 p1 k hk, (hr.dn p p0 p1 k hk).1⟩, fun ⟨h1, h2⟩ => ?_⟩⟩
  · have h1 := mU p p0 p1 k hk
    have h2 := hw.ok k h1.1
    have h3 := hr.up p p0 p1 k hk
    refine ⟨h3.1, h2.1.2.1, ⟨h2.1.2.2, h2.2⟩, ?_⟩
    rw [← h3.1]; exact h1.2
  · have := pk_len hl.1 p; omega
  · have h1 := mD p p0 p1 k hk
    have h2 := hw.ok k h1.1
    have h3 := hr.dn p p0 p1 k hk
    refine ⟨h3.1, h2.1.1, ⟨h2.1.2.2, h2.2⟩, ?_⟩
    rw [← h3.1]; exact h1.2
  · have := pk_len hl.1 p; omega
  · obtain ⟨q, q0, q1, hq⟩ := mem_allP.1 ((hw.up k).2 h1)
    have := (hr.up q q0 (by omega) k hq).1
    rw [← h2, this]; exact hq
  · obtain ⟨q, q0, q1, hq⟩ := mem_allP.1 ((hw.dn k).2 h1)
    have := (hr.dn q q0 (by omega) k hq).1
    rw [← h2, this]; exact hq
theorem EW.cons {E : Int → Int → Int → Prop} {s y x v w : Int} (h : E s y v) (k : EW E y x w) : EW E s x (v + w) := by
  induction k with
  | nil => have := EW.snoc (.nil) h; rw [Int.zero_add] at this; rw [Int.add_zero]; exact this
  | snoc a b ih => rw [← Int.add_assoc]; exact .snoc ih b
theorem LW.cons {E : LK → Prop} {j w : Int} (k : LK) (hk : E k) (h : LW E k.lt j w) : LW E k.lf j (k.lw + w) := by
  induction h with
  | nil => have := LW.snoc k (.nil) hk rfl; rw [Int.zero_add] at this; rw [Int.add_zero]; exact this
  | snoc k2 a b c ih => rw [← Int.add_assoc]; exact .snoc k2 ih b c
theorem LW.trans {E : LK → Prop} {i x y a b : Int} (h : LW E i x a) (k : LW E x y b) : LW E i y (a + b) := by
  induction k with
  | nil => rw [Int.add_zero]; exact h
  | snoc k2 a b c ih => rw [← Int.add_assoc]; exact .snoc k2 ih b c
section
variable {n : Int} {t R : List Int} {K : List LK} {U D : List IL}
theorem LC.up (h : LC n t R K U D) {i x w : Int} (hi : 0 ≤ i ∧ i < n) : EW (EL n (pkL R K U) LK.lt) i x w ↔ LW (isUp R K) i x w := by
  constructor
  · intro e
    induction e with
    | nil => exact .nil
    | snoc a b ih =>
      obtain ⟨hp, k, hk, e1, e2⟩ := b
      have := (h.mu _ hp.1 hp.2 k).1 hk
      subst e1 e2; exact .snoc k ih this.1 this.2
  · intro e
    induction e with
    | nil => exact .nil
    | snoc k a b c ih =>
      have hb := (h.su.bd2 hi ih).1
      exact .snoc ih ⟨hb, k, (h.mu _ hb.1 hb.2 k).2 ⟨b, c⟩, rfl, rfl⟩
theorem LC.dn (h : LC n t R K U D) {j x w : Int} (hj : 0 ≤ j ∧ j < n) : EW (EL n (pkL R K D) LK.lf) j x w ↔ LW (isDn R K) x j w := by
  constructor
  · intro e
    induction e with
    | nil => exact .nil
    | @snoc y w y' v a b ih =>
      obtain ⟨hp, k, hk, e1, e2⟩ := b
      have hd := (h.md _ hp.1 hp.2 k).1 hk
      subst e1 e2
      rw [Int.add_comm]; exact LW.cons k hd.1 (by rw [hd.2]; exact ih)
  · intro e
    induction e with
    | nil => exact .nil
    | snoc k a b c ih =>
      have o := (h.wy.ok k b.1).1
      subst c
      have := ih o.1
      rw [Int.add_comm]
      exact EW.cons ⟨hj, k, (h.md _ hj.1 hj.2 k).2 ⟨b, rfl⟩, rfl, rfl⟩ this
def fU (n : Int) (R : List Int) (K : List LK) (U : List IL) : Int → Int → Int := fw (clipF n (upT n R K U)) n.toNat
def fDn (n : Int) (R : List Int) (K : List LK) (D : List IL) (p k : Int) : Int := fU n R K D k p
theorem tab_sound {E : LK → Prop} {Y : List Int} (hY : TabL n E Y) (h1 : 1 ≤ n) : ∀ x y : Int, 0 ≤ x → x < n → 0 ≤ y → y < n → 0 ≤ fw (clipF n Y) n.toNat x y → LW E x y (fw (clipF n Y) n.toNat x y) := fw_sound (n := n) (Pr := fun x y w => LW E x y w) (fun _ _ _ => .nil) (fun x y _ _ _ _ hc => by
    obtain ⟨k, k1, k2, k3, k4⟩ := hY.all x y hc
    have := LW.snoc k (.nil) k1 rfl
    rw [Int.zero_add, k2, k3, k4] at this; exact this) (fun _ _ _ _ _ a b => a.trans b) n.toNat (by omega)
theorem LC.fu (h : LC n t R K U D) {i : Int} (hi : 0 ≤ i ∧ i < n) {M : List (Int × LA)} (hM : SrE n (pkL R K U) LK.lt LK.lf i M) : SrR n (fU n R K U i) M := by
  have hk := wyk h.wy
  refine sr_f h.su hi hM (fun x w hw => (tabL_way hk.2.1 (fun k e => (h.wy.ok k e.1).1) hi ((h.up hi).1 hw)).2) (fun x x0 x1 hx => (h.up hi).2 (tab_sound hk.2.1 (by omega) i x hi.1 hi.2 x0 x1 hx))
theorem LC.fd (h : LC n t R K U D) {j : Int} (hj : 0 ≤ j ∧ j < n) {M : List (Int × LA)} (hM : SrE n (pkL R K D) LK.lf LK.lt j M) : SrR n (fun k => fU n R K D k j) M := by
  have hk := wyk h.wy
  refine sr_f h.sd hj hM (fun x w hw => ?_) (fun x x0 x1 hx => (h.dn hj).2 (tab_sound hk.2.2 (by omega) x j x0 x1 hj.1 hj.2 hx))
  have hx := (h.sd.bd2 hj hw).1
  exact (tabL_way hk.2.2 (fun k e => (h.wy.ok k e.1).1) hx ((h.dn hj).1 hw)).2
theorem SrR.lbd {f : Int → Int} {M : List (Int × LA)} (h : SrR n f M) : LBd M := ⟨h.nd, fun x a e => by have := h.yes x a e; omega⟩
theorem mt_bst {F G : Int → Int → Int} {A B : List (Int × LA)} {i j b p : Int} (hn : 0 ≤ n) (hA : SrR n (F i) A) (hB : SrR n (fun k => G k j) B) (h : MtR A B b p) : b = bst F G i j n.toNat := by
  rcases bst_spec (A := F) (B := G) (i := i) (j := j) n.toNat with ⟨h1, h2⟩ | ⟨h1, ⟨k, k0, k1, k2, k3, k4⟩, h3⟩ <;> rcases h with ⟨g1, g2, g3⟩ | ⟨a, c, g1, g2, g3, g4⟩
  · rw [g1, h1]
  · have q1 := hA.yes p a g1
    have q2 := hB.yes p c g2
    exact absurd ⟨q1.2.2.1, q2.2.2.1⟩ (h2 p q1.1.1 (by omega))
  · cases e : laO A k with
    | none => have := hA.no k k0 (by omega) e; omega
    | some a =>
      have e2 := g3 k a e
      have h9 : G k j < 0 := hB.no k k0 (by omega) e2
      omega
  · have q1 := hA.yes p a g1
    have q2 := hB.yes p c g2
    have l1 := h3 p q1.1.1 (by omega) q1.2.2.1 q2.2.2.1
    cases e : laO A k with
    | none => have := hA.no k k0 (by omega) e; omega
    | some a' =>
      cases e2 : laO B k with
      | none => have h9 : G k j < 0 := hB.no k k0 (by omega) e2; omega
      | some c' =>
        have := g4 k a' c' e e2
        have r1 := hA.yes k a' e
        have r2 := hB.yes k c' e2
        omega
def dsF (n : Int) (t : List Int) (i j : Int) : Int := if (0 ≤ i ∧ i < n) ∧ (0 ≤ j ∧ j < n) then fw (tf n t) n.toNat i j else -1
theorem LC.ways (h : LC n t R K U D) {i j : Int} (hi : 0 ≤ i ∧ i < n) (hj : 0 ≤ j ∧ j < n) : bst (fU n R K U) (fU n R K D) i j n.toNat = dsF n t i j := by
  unfold dsF; rw [if_pos ⟨hi, hj⟩]
  exact ways_eq h.wy h.lo hi.1 hi.2 hj.1 hj.2
theorem LC.dist (h : LC n t R K U D) {i j b p : Int} {A B : List (Int × LA)} (hi : 0 ≤ i ∧ i < n) (hj : 0 ≤ j ∧ j < n) (hA : SrE n (pkL R K U) LK.lt LK.lf i A) (hB : SrE n (pkL R K D) LK.lf LK.lt j B) (hm : MtR A B b p) : b = dsF n t i j := by
  rw [← h.ways hi hj]
  exact mt_bst (F := fU n R K U) (G := fU n R K D) (by omega) (h.fu hi hA) (h.fd hj hB) hm
theorem LC.out (h : LC n t R K U D) {i : Int} : rkAt R i < 0 ↔ ¬ (0 ≤ i ∧ i < n) := by
  have hR := h.hR
  constructor
  · intro q c
    rw [rkAt_in c.1 (by omega)] at q
    have := h.wy.rk i c.1 c.2; omega
  · intro q
    rw [rkAt_out (by omega)]; decide
theorem LC.no (h : LC n t R K U D) {i j : Int} (q : rkAt R i < 0 ∨ rkAt R j < 0) : dsF n t i j = -1 := by
  unfold dsF
  rw [if_neg]
  rcases q with q | q
  · exact fun c => (h.out.1 q) c.1
  · exact fun c => (h.out.1 q) c.2
theorem LC.rng (h : LC n t R K U D) {i j : Int} (q : ¬ (rkAt R i < 0 ∨ rkAt R j < 0)) : (0 ≤ i ∧ i < n) ∧ (0 ≤ j ∧ j < n) := ⟨Classical.byContradiction fun c => q (.inl (h.out.2 c)), Classical.byContradiction fun c => q (.inr (h.out.2 c))⟩
end
def rcP (f : Int → Int) : Nat → List Int
  | 0 => []
  | k + 1 => if 0 ≤ f k then rcP f k ++ [(k : Int)] else rcP f k
def rcW (f : Int → Int) : Nat → List Int
  | 0 => []
  | k + 1 => if 0 ≤ f k then rcW f k ++ [f k] else rcW f k
theorem rch_len {f : Int → Int} : ∀ k : Nat, (rcP f k).length ≤ k ∧ (rcW f k).length = (rcP f k).length
  | 0 => ⟨Nat.le_refl _, rfl⟩
  | k + 1 => by
    have := rch_len (f := f) k
    unfold rcP rcW
    split
    · simp only [List.length_append, List.length_singleton]; omega
    · omega
theorem rch_yes {n : Int} {f : Int → Int} {M : List (Int × LA)} {i : Int} {P W : List Int} (h : SrR n f M) (h0 : 0 ≤ i) (hm : mhas M i = true) (hP : P = rcP f i.toNat) (hW : W = rcW f i.toNat) : P ++ [i] = rcP f (i + 1).toNat ∧ W ++ [(mget M i dLA).ld] = rcW f (i + 1).toNat := by
  have hy := h.yes i _ (lo_has hm)
  rw [nat_1 h0]
  unfold rcP rcW
  rw [show ((i.toNat : Nat) : Int) = i from by omega, if_pos hy.2.2.1, if_pos hy.2.2.1, hP, hW, hy.2.1]
  exact ⟨rfl, rfl⟩
theorem rch_no {n : Int} {f : Int → Int} {M : List (Int × LA)} {i : Int} {P W : List Int} (h : SrR n f M) (h0 : 0 ≤ i) (h1 : i < n) (hm : ¬ mhas M i = true) (hP : P = rcP f i.toNat) (hW : W = rcW f i.toNat) : P = rcP f (i + 1).toNat ∧ W = rcW f (i + 1).toNat := by
  have hy := h.no i h0 h1 (lo_none.2 (by simpa using hm))
  rw [nat_1 h0]
  unfold rcP rcW
  rw [show ((i.toNat : Nat) : Int) = i from by omega, if_neg (by omega), if_neg (by omega)]
  exact ⟨hP, hW⟩
end Go.SX
namespace Go.SX
open Go Go.RowKit
theorem fl_eZ (l : List Int) : (flat eZ l).length = l.length * 1 := flat_length eZ l
section
variable {V : Env} {P : Program} {Q : Exit → Act → World → Prop} {ops : Array Oper} {N : Nat} {o : Oper} {L : List (Nat × Value)} {H R : List Res} {S : Nat → Prop} {wf : World} {K : St → Prop}
theorem st_copyp0 {t t' e e' : TypeId} {x y : Operand} {g nd cd ns c' sz k : Nat} {A : Option Addr} {ag : Bool} {T : List Value} {d : Nat} (cells : List Value) (ho : o.op = .call { callee := .builtin .copy, args := #[x, y], argTypes := #[t, t'] }) (hg : o.guard = none) (hd : o.dst = some d) (hdN : Nat.blt d N = true)
    (hu : P.underlying t = some (.slice e)) (hs : ty P e = some (ag, sz)) (hsz : Nat.ble 1 sz = true) (hx : lk L x = some (.slice (some ⟨g, 0, none⟩) nd cd)) (hy : lk L y = some (.slice A ns c'))
    (hk : Nat.min ns nd = k) (hc : cells.length = k * sz) (h1 : cells.all (·.oneCell') = true) (hm : ∀ w, WW V S wf H w → Src w A cells) (hp : Pick H (cel g T e') R) (hle : cells.length ≤ T.length)
    (kk : K ⟨(d, .int .i64 (k : Int)) :: L, cel g (put T 0 cells) e' :: R, S, wf⟩) : OpStep V P Q ops N o ⟨L, H, S, wf⟩ K :=
  st_copyp (off := 0) (c0 := nd + 1) (l0 := 0) (p := 0) cells ho hg hd hdN hu hs hsz (by rw [cutO_zero]; exact hx) (by omega) hy hk hc h1 hm hp (by simp) (by omega) kk
end
theorem bnd_lo {c : Int} (h0 : 0 ≤ c) (h1 : c < 4294967296) : bnd .u64 c 4294967295 = c := by
  obtain ⟨k, rfl⟩ := Int.eq_ofNat_of_zero_le h0
  have hk : k < 4294967296 := by omega
  unfold bnd
  have e : (BitVec.ofInt IntKind.u64.bits (k : Int) &&& BitVec.ofInt IntKind.u64.bits 4294967295).toNat = k := by
    show (BitVec.ofInt 64 (k : Int) &&& BitVec.ofInt 64 4294967295).toNat = k
    rw [BitVec.toNat_and]
    have e1 : (BitVec.ofInt 64 (k : Int)).toNat = k := by simp; omega
    have e2 : (BitVec.ofInt 64 4294967295).toNat = 4294967295 := by decide
    rw [e1, e2]
    have := Nat.and_two_pow_sub_one_eq_mod k 32
    rw [show (2 : Nat) ^ 32 - 1 = 4294967295 from by decide] at this
    rw [this]; exact Nat.mod_eq_of_lt (by omega)
  rw [e]; exact wrap_u64_in (by omega) (by omega)
theorem fdiv_lo {c : Int} (h0 : 0 ≤ c) (h1 : c < 4294967296) : Int.fdiv c 4294967296 = 0 := by
  rw [Int.fdiv_eq_ediv_of_nonneg _ (by decide)]; omega
theorem repv_0 {T T' sp : List Value} {x : Int} {k : Nat} (hT : T = flat eZ (List.replicate k 0) ++ sp) (h : T' = put T 0 (flat eZ [x])) : T'.take 1 = flat eZ (List.replicate 1 x) := by
  rw [h]; rfl
theorem repv_put {T T' : List Value} {q m p : Nat} {x : Int} (hT : T.take q = flat eZ (List.replicate q x)) (h : T' = put T p (flat eZ (List.replicate m x))) (hp : p = q) (hl : q + m ≤ T.length) : T'.take (q + m) = flat eZ (List.replicate (q + m) x) := by
  subst hp
  rw [h, ← List.replicate_append_replicate, flat_append, put, hT, List.take_left' ]
  simp only [List.length_append, fl_eZ, List.length_replicate]; omega
theorem repv_src {T : List Value} {q m : Nat} {x : Int} (hT : T.take q = flat eZ (List.replicate q x)) (hm : m ≤ q) : T.take (flat eZ (List.replicate m x)).length = flat eZ (List.replicate m x) := by
  rw [fl_eZ, List.length_replicate, Nat.mul_one]
  have : T.take m = (T.take q).take m := by rw [List.take_take, Nat.min_eq_left hm]
  have h2 := flat_take eZ (List.replicate q x) m
  rw [show m * eZ.sz = m from Nat.mul_one m, List.take_replicate, Nat.min_eq_left hm] at h2
  rw [this, hT, h2]
theorem repv_nx {T T' : List Value} {m p : Nat} {x q q2 : Int} (hT : T.take q.toNat = flat eZ (List.replicate q.toNat x)) (h : T' = put T p (flat eZ (List.replicate m x))) (hp : p = q.toNat) (hl : q.toNat + m ≤ T.length) (e : q2.toNat = q.toNat + m) : T'.take q2.toNat = flat eZ (List.replicate q2.toNat x) := by
  rw [e]; exact repv_put hT h hp hl
theorem repv_end {T : List Value} {x q k : Int} (hT : T.take q.toNat = flat eZ (List.replicate q.toNat x)) (e : q = k) : T.take ((List.replicate k.toNat x).length * eZ.sz) = flat eZ (List.replicate k.toNat x) := by
  subst e; rw [List.length_replicate, show q.toNat * eZ.sz = q.toNat from Nat.mul_one _]; exact hT
end Go.SX
namespace Go.SX
open Go Go.RowKit
structure ER where
  er : List EG
  erA : Option Addr
  erc : Nat
  deriving Inhabited
def eER : Enc ER where
  sz := 1
  enc x := [.slice x.erA x.er.length x.erc]
  len _ := rfl
  one x u hu := by simp at hu; subst hu; rfl
  pos := by decide
def resER (e : Nat) (s : ER) : Res := rowB eEG e (.slice s.erA s.er.length s.erc) s.er
def nestER (e : Nat) (l : List ER) : Res := big (resER e) l
abbrev dER : ER := ⟨[], none, 0⟩
theorem made_slicesE (n : Nat) : (madeCells (Value.slice none 0 0).cells (n * 1)).toList = flat eER (List.replicate n dER) := by
  have hc : Value.cells (.slice none 0 0) = #[Value.slice none 0 0] := rfl
  have h1 : (madeCells (Value.slice none 0 0).cells (n * 1)).toList = List.replicate n (Value.slice none 0 0) := by
    unfold madeCells
    rw [hc, Array.toList_map, Array.toList_range]
    refine List.ext_getElem (by simp) fun i h1 h2 => ?_
    simp [Nat.mod_one]
  rw [h1]
  clear h1
  induction n with
  | zero => rfl
  | succ n ih => rw [List.replicate_succ, List.replicate_succ, flat_cons, ← ih]; rfl
section
variable {V : Env} {P : Program} {Q : Exit → Act → World → Prop} {ops : Array Oper} {N : Nat} {o : Oper} {rest : List Oper} {L : List (Nat × Value)} {H R : List Res} {S : Nat → Prop} {wf : World} {K : St → Prop} {st : St} {c : Code}
theorem st_mkslicesE {t e : TypeId} {x y : Operand} {kk : IntKind} {n : Nat} {a : Int} {bytes : Nat} {d : Nat} (ho : o.op = .makeSlice t x y) (hg : o.guard = none) (hd : o.dst = some d) (hdN : Nat.blt d N = true) (ht : P.underlying t = some (.slice e)) (hi : (P.info? e).map (fun i => (i.zero, i.size, i.bytes)) = some (some (.slice none 0 0), 1, bytes))
    (hx : lk L x = some (.int kk a)) (hy : lk L y = some (.int kk a)) (ha : a = (n : Int)) (hb : n * bytes ≤ 1073741824) (hb1 : Nat.ble 1 bytes = true)
    (k : ∀ b, K ⟨(d, .slice (some ⟨b, 0, none⟩) n n) :: L, rw_ eER e (.slice (some ⟨b, 0, none⟩) n n) (List.replicate n dER) :: H, S, wf⟩) : OpStep V P Q ops N o ⟨L, H, S, wf⟩ K := by
  subst ha
  have hb1 := Nat.le_of_ble_eq_true hb1
  have hn : n ≤ 1073741824 := Nat.le_trans (by have := Nat.mul_le_mul_left n hb1; omega) hb
  refine .act hg hd hdN (by simp [ho, noSel]) (by simp [ho, Op.operands, known_of hx, known_of hy]) fun w hw => ?_
  obtain ⟨i, hi, hq⟩ := Option.map_eq_some_iff.1 hi
  simp only [Prod.mk.injEq] at hq
  have hbb : ((i.bytes : Nat) : Int) * (n : Int) ≤ 281474976710656 := by
    rw [hq.2.2, ← Int.natCast_mul, Nat.mul_comm]; omega
  have hr := run_make (P := P) w t e i (.slice none 0 0) ht hi hq.1 kk kk n n (by omega) (Int.le_refl _) hbb (by omega)
  simp only [Int.toNat_natCast, hq.2.1, Nat.mul_one] at hr
  refine ⟨_, _, _, by simp only [execOp, ho, ev_of hx, ev_of hy, Sem.run_bind, hr]; rfl, ?_, k w.heap.size⟩
  refine WW.change (C := []) (R := H) (C' := [rw_ eER e (.slice (some ⟨w.heap.size, 0, none⟩) n n) (List.replicate n dER)]) hw (fun b hb _ => Below.heap_alloc w _ b hb) (by simp) ?_ (by simp [rw_, row, Value.ownBlock]) (fun b hb => .inr ?_) rfl rfl rfl
  · intro r hr
    simp only [List.mem_singleton] at hr
    subst hr
    refine rw_holds.2 (.inr ⟨w.heap.size, n, _, by rw [List.length_replicate], heap_alloc_new w _, by simp, by simp only [maxLen]; omega, by rw [size_madeCells]; simp [eER], ?_⟩)
    have := made_slicesE n
    rw [Nat.mul_one] at this
    rw [this, List.take_of_length_le (by rw [flat_length]; exact Nat.le_refl _)]
  · simp [rw_, row, Value.ownBlock] at hb
    omega
theorem foot_ERs (e n : Nat) : (nestER e (List.replicate n dER)).foot = [] := by
  induction n with
  | zero => rfl
  | succ n ih => rw [List.replicate_succ]; show (resER e dER).foot ++ (nestER e (List.replicate n dER)).foot = []; rw [ih]; rfl
theorem SC.ERs (e n : Nat) (h : SC V P Q N c ⟨L, nestER e (List.replicate n dER) :: H, S, wf⟩) : SC V P Q N c ⟨L, H, S, wf⟩ := fun a w hs hw =>
  h a w hs (WW.swap (A := []) hw (foot_ERs e n) (fun _ x hx => by
    rw [List.eq_of_mem_replicate hx]
    exact ⟨⟨by simp [flat], .inl ⟨rfl, rfl⟩⟩, Nat.zero_le _⟩))
theorem SC.outER {e : Nat} {l : List ER} (i : Int) (h0 : 0 ≤ i) (h1 : i < (l.length : Int)) (hp : Pick H (nestER e l) R)
    (h : (gt l i).er.length ≤ 140737488355328 → SC V P Q N c ⟨L, rw_ eEG e (.slice (gt l i).erA (gt l i).er.length (gt l i).erc) (gt l i).er :: nestER e (l.take i.toNat ++ l.drop (i + 1).toNat) :: R, S, wf⟩) : SC V P Q N c ⟨L, H, S, wf⟩ := fun a w hs hw => by
  have hw' := hw.perm hp.perm
  have hh := hw'.has (nestER e l) (List.mem_cons_self ..)
  refine h (hh _ (gtM h0 h1)).2 a w hs (WW.relist (A := [nestER e l]) (B := [rw_ eEG e (.slice (gt l i).erA (gt l i).er.length (gt l i).erc) (gt l i).er, nestER e (l.take i.toNat ++ l.drop (i + 1).toNat)]) hw' ?_ (fun hA r hr => ?_))
  · simp only [feet_cons, feet_nil, List.append_nil]
    have hm := big_mid (f := resER e) (a := l.take i.toNat) (b := l.drop (i + 1).toNat) (x := gt l i)
    rw [← split_at h0 h1] at hm
    exact hm.symm
  · have hA := hA (nestER e l) (by simp)
    rcases List.mem_cons.1 hr with rfl | hr
    · exact (hA _ (gtM h0 h1)).1
    · simp only [List.mem_singleton] at hr; subst hr
      intro x hx
      refine hA x ?_
      rw [split_at h0 h1]
      rcases List.mem_append.1 hx with hx | hx
      · exact List.mem_append_left _ hx
      · exact List.mem_append_right _ (List.mem_cons_of_mem _ hx)
theorem SQ.inER {Q : Act → World → Prop} {e n : Nat} {l : List ER} (i : Int) (x : ER) (h0 : 0 ≤ i) (h1 : i < (l.length : Int)) (hp : PickL H [rw_ eEG e (.slice x.erA n x.erc) x.er, nestER e (l.take i.toNat ++ l.drop (i + 1).toNat)] R) (hn : x.er.length = n) (hb : n ≤ 140737488355328)
    (h : SQ V Q N ⟨L, nestER e (l.set i.toNat x) :: R, S, wf⟩) : SQ V Q N ⟨L, H, S, wf⟩ := fun a w hs hw => by
  subst hn
  have hw' := hw.perm hp.perm
  refine h a w hs (WW.relist (A := [rw_ eEG e (.slice x.erA x.er.length x.erc) x.er, nestER e (l.take i.toNat ++ l.drop (i + 1).toNat)]) (B := [nestER e (l.set i.toNat x)]) hw' ?_ (fun hA r hr => ?_))
  · simp only [feet_cons, feet_nil, List.append_nil]
    have hm := big_mid (f := resER e) (a := l.take i.toNat) (b := l.drop (i + 1).toNat) (x := x)
    rw [← set_at h0 h1] at hm
    exact hm
  · simp only [List.mem_singleton] at hr; subst hr
    intro y hy
    rw [set_at h0 h1] at hy
    have k1 := hA (rw_ eEG e (.slice x.erA x.er.length x.erc) x.er) (by simp)
    have k2 := hA (nestER e (l.take i.toNat ++ l.drop (i + 1).toNat)) (by simp)
    rcases List.mem_append.1 hy with hy | hy
    · exact k2 y (List.mem_append_left _ hy)
    · rcases List.mem_cons.1 hy with rfl | hy
      · exact ⟨k1, hb⟩
      · exact k2 y (List.mem_append_right _ hy)
theorem SQ.backER {Q : Act → World → Prop} {e : Nat} {l : List ER} (i : Int) (h0 : 0 ≤ i) (h1 : i < (l.length : Int)) (hp : PickL H [rw_ eEG e (.slice (gt l i).erA (gt l i).er.length (gt l i).erc) (gt l i).er, nestER e (l.take i.toNat ++ l.drop (i + 1).toNat)] R) (hb : (gt l i).er.length ≤ 140737488355328)
    (h : SQ V Q N ⟨L, nestER e l :: R, S, wf⟩) : SQ V Q N ⟨L, H, S, wf⟩ := fun a w hs hw => by
  have hw' := hw.perm hp.perm
  refine h a w hs (WW.relist (A := [rw_ eEG e (.slice (gt l i).erA (gt l i).er.length (gt l i).erc) (gt l i).er, nestER e (l.take i.toNat ++ l.drop (i + 1).toNat)]) (B := [nestER e l]) hw' ?_ (fun hA r hr => ?_))
  · simp only [feet_cons, feet_nil, List.append_nil]
    have hm := big_mid (f := resER e) (a := l.take i.toNat) (b := l.drop (i + 1).toNat) (x := gt l i)
    rw [← split_at h0 h1] at hm
    exact hm
  · simp only [List.mem_singleton] at hr; subst hr
    intro y hy
    rw [split_at h0 h1] at hy
    have k1 := hA (rw_ eEG e (.slice (gt l i).erA (gt l i).er.length (gt l i).erc) (gt l i).er) (by simp)
    have k2 := hA (nestER e (l.take i.toNat ++ l.drop (i + 1).toNat)) (by simp)
    rcases List.mem_append.1 hy with hy | hy
    · exact k2 y (List.mem_append_left _ hy)
    · rcases List.mem_cons.1 hy with rfl | hy
      · exact ⟨k1, hb⟩
      · exact k2 y (List.mem_append_right _ hy)
end
end Go.SX
namespace Go.SX
open Go Go.RowKit
structure BkG (n : Int) (f : Int → Int → Int) (dn : Int → Int → Prop) (X : List ER) : Prop where
  len : (X.length : Int) = n
  ok : ∀ p : Int, 0 ≤ p → p < n → ∀ e ∈ (gt X p).er, (0 ≤ e.et ∧ e.et < n) ∧ e.ew = f p e.et ∧ (0 ≤ e.ew ∧ e.ew ≤ 200000000000000000) ∧ dn p e.et
  all : ∀ p j : Int, 0 ≤ p → p < n → 0 ≤ j → j < n → dn p j → 0 ≤ f p j → ∃ e ∈ (gt X p).er, e.et = j
  nd : ∀ p : Int, 0 ≤ p → p < n → ((gt X p).er.map EG.et).Nodup
theorem BkG.el {n : Int} {f : Int → Int → Int} {dn : Int → Int → Prop} {X : List ER} (h : BkG n f dn X) {p : Int} (h0 : 0 ≤ p) (h1 : p < n) : ((gt X p).er.length : Int) ≤ n := by
  have := nodup_le (h.nd p h0 h1) (fun x hx => by
    obtain ⟨e, he, rfl⟩ := List.mem_map.1 hx
    exact (h.ok p h0 h1 e he).1) (by omega)
  rwa [List.length_map] at this
theorem BkG.congr {n : Int} {f : Int → Int → Int} {dn dn' : Int → Int → Prop} {X : List ER} (h : BkG n f dn X) (hd : ∀ p j : Int, 0 ≤ p → p < n → 0 ≤ j → j < n → 0 ≤ f p j → (dn p j ↔ dn' p j)) : BkG n f dn' X :=
  ⟨h.len, fun p p0 p1 e he => by
    have := h.ok p p0 p1 e he
    exact ⟨this.1, this.2.1, this.2.2.1, (hd p e.et p0 p1 this.1.1 this.1.2 (by rw [← this.2.1]; exact this.2.2.1.1)).1 this.2.2.2⟩, fun p j p0 p1 j0 j1 q r => h.all p j p0 p1 j0 j1 ((hd p j p0 p1 j0 j1 r).2 q) r, h.nd⟩
theorem bk_0 {n : Int} {f : Int → Int → Int} (hn : 0 ≤ n) : BkG n f (fun _ j => j < 0) (List.replicate n.toNat dER) := by
  have e : ∀ p : Int, (gt (List.replicate n.toNat dER) p).er = [] := fun p => by
    rcases gt_repl (n := n.toNat) (x := dER) p with h | h <;> rw [h] <;> rfl
  exact ⟨by rw [List.length_replicate]; omega, fun p _ _ x hx => (by rw [e] at hx; cases hx), fun p j _ _ j0 _ q => absurd q (by omega), fun p _ _ => by rw [e]; exact .nil⟩
def dnB (to : Int) (Lf : List (Int × LA)) : Int → Int → Prop := fun p j => j < to ∨ (j = to ∧ mhas Lf p = false)
theorem bk_in {n to : Int} {f : Int → Int → Int} {X : List ER} {M : List (Int × LA)} (h : BkG n f (fun _ j => j < to) X) (hM : SrR n (fun k => f k to) M) : BkG n f (dnB to M) X := h.congr fun p j p0 p1 j0 j1 hf => ⟨.inl, fun q => by
  rcases q with q | ⟨rfl, q⟩
  · exact q
  · have : f p j < 0 := hM.no p p0 p1 (lo_none.2 q)
    omega⟩
theorem bk_out {n to : Int} {f : Int → Int → Int} {X : List ER} (h : BkG n f (dnB to []) X) : BkG n f (fun _ j => j < to + 1) X := h.congr fun p j p0 p1 j0 j1 hf => ⟨fun q => by
  rcases q with q | ⟨rfl, q⟩ <;> omega, fun q => by
  have : j < to ∨ j = to := by omega
  rcases this with q | q
  · exact .inl q
  · exact .inr ⟨q, rfl⟩⟩
structure LfI (M Lf : List (Int × LA)) : Prop where
  nd : (Lf.map Prod.fst).Nodup
  sub : ∀ q ∈ Lf, q ∈ M
theorem lf_0 {M : List (Int × LA)} (h : (M.map Prod.fst).Nodup) : LfI M M := ⟨h, fun _ h => h⟩
theorem lf_next {M Lf : List (Int × LA)} {x : Int} (h : LfI M Lf) : LfI M (Lf.filter (fun q => decide (q.1 ≠ x))) := ⟨nd_filter h.nd, fun q hq => h.sub q (List.mem_filter.1 hq).1⟩
theorem lf_at {n : Int} {f : Int → Int} {M Lf : List (Int × LA)} {x : Int} {v : LA} (hM : SrR n f M) (h : LfI M Lf) (hx : (x, v) ∈ Lf) : (0 ≤ x ∧ x < n) ∧ v.ld = f x ∧ (0 ≤ v.ld ∧ v.ld ≤ 200000000000000000) := by
  have := hM.yes x v (lo_mem hM.nd (h.sub _ hx))
  exact ⟨this.1, this.2.1, by omega⟩
theorem bk_step {n to x : Int} {f : Int → Int → Int} {X : List ER} {M Lf : List (Int × LA)} {v : LA} {A : Option Addr} {c : Nat} (t0 : 0 ≤ to ∧ to < n) (hM : SrR n (fun k => f k to) M) (hL : LfI M Lf) (h : BkG n f (dnB to Lf) X) (hx : (x, v) ∈ Lf) : BkG n f (dnB to (Lf.filter (fun q => decide (q.1 ≠ x)))) (X.set x.toNat ⟨(gt X x).er ++ [⟨to, v.ld⟩], A, c⟩) := by
  have hv := lf_at hM hL hx
  have hs : ∀ p : Int, 0 ≤ p → (gt (X.set x.toNat ⟨(gt X x).er ++ [⟨to, v.ld⟩], A, c⟩) p).er = if p = x then (gt X x).er ++ [⟨to, v.ld⟩] else (gt X p).er := fun p p0 => by
    by_cases e : p = x
    · subst e; rw [if_pos rfl, gt_sets hv.1.1 (by have := h.len; omega)]
    · rw [if_neg e, gt_setn hv.1.1 p0 (by omega)]
  have hxm : mhas Lf x = true := mhas_iff.2 ⟨v, hx⟩
  refine ⟨by rw [List.length_set]; exact h.len, fun p p0 p1 e he => ?_, fun p j p0 p1 j0 j1 q r => ?_, fun p p0 p1 => ?_⟩
  · rw [hs p p0] at he
    by_cases ep : p = x
    · subst ep
      rw [if_pos rfl] at he
      rcases List.mem_append.1 he with he | he
      · have := h.ok p p0 p1 e he
        refine ⟨this.1, this.2.1, this.2.2.1, ?_⟩
        rcases this.2.2.2 with q | ⟨q, r⟩
        · exact .inl q
        · exact .inr ⟨q, has_del.2 (.inr r)⟩
      · simp only [List.mem_singleton] at he; subst he
        exact ⟨t0, hv.2.1, hv.2.2, .inr ⟨rfl, has_del.2 (.inl rfl)⟩⟩
    · rw [if_neg ep] at he
      have := h.ok p p0 p1 e he
      refine ⟨this.1, this.2.1, this.2.2.1, ?_⟩
      rcases this.2.2.2 with q | ⟨q, r⟩
      · exact .inl q
      · exact .inr ⟨q, has_del.2 (.inr r)⟩
  · rw [hs p p0]
    by_cases ep : p = x
    · subst ep
      rw [if_pos rfl]
      rcases q with q | ⟨rfl, q⟩
      · obtain ⟨e, he, e1⟩ := h.all p j p0 p1 j0 j1 (.inl q) r
        exact ⟨e, List.mem_append_left _ he, e1⟩
      · exact ⟨_, List.mem_append_right _ (List.mem_singleton.2 rfl), rfl⟩
    · rw [if_neg ep]
      refine h.all p j p0 p1 j0 j1 ?_ r
      rcases q with q | ⟨rfl, q⟩
      · exact .inl q
      · exact .inr ⟨rfl, (has_del.1 q).resolve_left ep⟩
  · rw [hs p p0]
    by_cases ep : p = x
    · subst ep
      rw [if_pos rfl, List.map_append, List.nodup_append]
      refine ⟨h.nd p p0 p1, by simp, fun a ha b hb => ?_⟩
      obtain ⟨e, he, rfl⟩ := List.mem_map.1 ha
      simp only [List.map_cons, List.map_nil, List.mem_singleton] at hb; subst hb
      rcases (h.ok p p0 p1 e he).2.2.2 with q | ⟨q, r⟩
      · omega
      · rw [hxm] at r; cases r
    · rw [if_neg ep]; exact h.nd p p0 p1
structure MnI (n : Int) (D : Int → Int → Int) (f : Int → Int) (g : Int → Int → Int) (i : Int) (pr : Int → Int → Prop) (W : List Int) : Prop where
  len : (W.length : Int) = n * n
  up : ∀ a b : Int, 0 ≤ a → a < i → 0 ≤ b → b < n → gt W (a * n + b) = D a b
  dn : ∀ a b : Int, i < a → a < n → 0 ≤ b → b < n → gt W (a * n + b) = -1
  at_ : i < n → ∀ b : Int, 0 ≤ b → b < n → (gt W (i * n + b) = -1 ∧ ∀ p, 0 ≤ p → p < n → ¬ pr p b) ∨ (0 ≤ gt W (i * n + b) ∧ (∃ p, (0 ≤ p ∧ p < n) ∧ pr p b ∧ gt W (i * n + b) = f p + g p b) ∧ ∀ p, 0 ≤ p → p < n → pr p b → gt W (i * n + b) ≤ f p + g p b)
theorem MnI.congr {n i : Int} {D : Int → Int → Int} {f : Int → Int} {g : Int → Int → Int} {pr pr' : Int → Int → Prop} {W : List Int} (h : MnI n D f g i pr W) (hp : ∀ p b : Int, 0 ≤ p → p < n → 0 ≤ b → b < n → (pr p b ↔ pr' p b)) : MnI n D f g i pr' W := ⟨h.len, h.up, h.dn, fun hi b b0 b1 => by
  rcases h.at_ hi b b0 b1 with ⟨h1, h2⟩ | ⟨h1, ⟨p, h2, h3, h4⟩, h5⟩
  · exact .inl ⟨h1, fun p p0 p1 q => h2 p p0 p1 ((hp p b p0 p1 b0 b1).2 q)⟩
  · exact .inr ⟨h1, ⟨p, h2, (hp p b h2.1 h2.2 b0 b1).1 h3, h4⟩, fun q q0 q1 r => h5 q q0 q1 ((hp q b q0 q1 b0 b1).2 r)⟩⟩
theorem mn_0 {n : Int} {D : Int → Int → Int} {f : Int → Int} {g : Int → Int → Int} (hn : 1 ≤ n ∧ n ≤ 32) : MnI n D f g 0 (fun _ _ => False) (List.replicate (n * n).toNat (-1)) := by
  have hsq := sq_le hn
  have e : ∀ a b : Int, 0 ≤ a → a < n → 0 ≤ b → b < n → gt (List.replicate (n * n).toNat (-1)) (a * n + b) = -1 := fun a b a0 a1 b0 b1 => by
    have := idx_rng (n := n) ⟨a0, a1⟩ ⟨b0, b1⟩
    unfold gt
    rw [List.getD_eq_getElem?_getD, List.getElem?_replicate, if_pos (by omega)]; rfl
  exact ⟨by rw [List.length_replicate]; omega, fun a b a0 a1 => absurd a1 (by omega), fun a b a0 a1 b0 b1 => e a b (by omega) a1 b0 b1, fun _ b b0 b1 => .inl ⟨e 0 b (by omega) (by omega) b0 b1, fun _ _ _ q => q⟩⟩
theorem mn_row {n i : Int} {D : Int → Int → Int} {f f' : Int → Int} {g : Int → Int → Int} {pr : Int → Int → Prop} {W : List Int} (i0 : 0 ≤ i) (h : MnI n D f g i pr W) (hd : ∀ b : Int, 0 ≤ b → b < n → gt W (i * n + b) = D i b) : MnI n D f' g (i + 1) (fun _ _ => False) W :=
  ⟨h.len, fun a b a0 a1 b0 b1 => by
    by_cases e : a = i
    · subst e; exact hd b b0 b1
    · exact h.up a b a0 (by omega) b0 b1, fun a b a0 a1 => h.dn a b (by omega) a1, fun hi b b0 b1 => .inl ⟨h.dn (i + 1) b (by omega) hi b0 b1, fun _ _ _ q => q⟩⟩
theorem mn_yes {n i x b : Int} {D : Int → Int → Int} {f : Int → Int} {g : Int → Int → Int} {pr : Int → Int → Prop} {W : List Int} (i0 : 0 ≤ i ∧ i < n) (x0 : 0 ≤ x ∧ x < n) (b0 : 0 ≤ b ∧ b < n) (h : MnI n D f g i pr W) (hs : 0 ≤ f x + g x b) (hc : gt W (i * n + b) < 0 ∨ f x + g x b < gt W (i * n + b)) : MnI n D f g i (fun p c => pr p c ∨ (p = x ∧ c = b)) (W.set (i * n + b).toNat (f x + g x b)) := by
  have hr := idx_rng (n := n) i0 b0
  have hl := h.len
  have hg : ∀ a c : Int, 0 ≤ a → a < n → 0 ≤ c → c < n → gt (W.set (i * n + b).toNat (f x + g x b)) (a * n + c) = if a = i ∧ c = b then f x + g x b else gt W (a * n + c) := fun a c a0 a1 c0 c1 => by
    have hr2 := idx_rng (n := n) ⟨a0, a1⟩ ⟨c0, c1⟩
    by_cases e : a = i ∧ c = b
    · obtain ⟨rfl, rfl⟩ := e
      rw [if_pos ⟨rfl, rfl⟩, gt_sets (by omega) (by omega)]
    · rw [if_neg e, gt_setn (by omega) (by omega) (fun q => e (idx_inj ⟨a0, a1⟩ ⟨c0, c1⟩ i0 b0 q.symm))]
  refine ⟨by rw [List.length_set]; exact hl, fun a c a0 a1 c0 c1 => ?_, fun a c a0 a1 c0 c1 => ?_, fun hi c c0 c1 => ?_⟩
  · rw [hg a c a0 (by omega) c0 c1, if_neg (by omega)]; exact h.up a c a0 a1 c0 c1
  · rw [hg a c (by omega) a1 c0 c1, if_neg (by omega)]; exact h.dn a c a0 a1 c0 c1
  · rw [hg i c i0.1 i0.2 c0 c1]
    by_cases e : c = b
    · subst e
      rw [if_pos ⟨rfl, rfl⟩]
      refine .inr ⟨hs, ⟨x, x0, .inr ⟨rfl, rfl⟩, rfl⟩, fun p p0 p1 q => ?_⟩
      rcases q with q | ⟨rfl, _⟩
      · rcases h.at_ hi c c0 c1 with ⟨h1, h2⟩ | ⟨h1, h2, h3⟩
        · exact absurd q (h2 p p0 p1)
        · have := h3 p p0 p1 q; omega
      · exact Int.le_refl _
    · rw [if_neg (fun q => e q.2)]
      rcases h.at_ hi c c0 c1 with ⟨h1, h2⟩ | ⟨h1, ⟨p, h2, h3, h4⟩, h5⟩
      · exact .inl ⟨h1, fun p p0 p1 q => q.elim (h2 p p0 p1) fun q => e q.2⟩
      · exact .inr ⟨h1, ⟨p, h2, .inl h3, h4⟩, fun p p0 p1 q => q.elim (h5 p p0 p1) fun q => absurd q.2 e⟩
theorem mn_no {n i x b : Int} {D : Int → Int → Int} {f : Int → Int} {g : Int → Int → Int} {pr : Int → Int → Prop} {W : List Int} (h : MnI n D f g i pr W) (hc : ¬ (gt W (i * n + b) < 0 ∨ f x + g x b < gt W (i * n + b))) : MnI n D f g i (fun p c => pr p c ∨ (p = x ∧ c = b)) W := by
  refine ⟨h.len, h.up, h.dn, fun hi c c0 c1 => ?_⟩
  rcases h.at_ hi c c0 c1 with ⟨h1, h2⟩ | ⟨h1, ⟨p, h2, h3, h4⟩, h5⟩
  · refine .inl ⟨h1, fun p p0 p1 q => q.elim (h2 p p0 p1) fun q => ?_⟩
    obtain ⟨rfl, rfl⟩ := q
    omega
  · refine .inr ⟨h1, ⟨p, h2, .inl h3, h4⟩, fun p p0 p1 q => q.elim (h5 p p0 p1) fun q => ?_⟩
    obtain ⟨rfl, rfl⟩ := q
    omega
def prA (A Lf : List (Int × LA)) (g : Int → Int → Int) (p b : Int) : Prop := mhas A p = true ∧ mhas Lf p = false ∧ 0 ≤ g p b
def prX (A Lf : List (Int × LA)) (g : Int → Int → Int) (E : List EG) (x : Int) (k : Nat) (p b : Int) : Prop := prA A Lf g p b ∨ (p = x ∧ ∃ e ∈ E.take k, e.et = b)
section
variable {n i x : Int} {D : Int → Int → Int} {f : Int → Int} {g : Int → Int → Int} {A Lf : List (Int × LA)} {v : LA} {X : List ER} {W : List Int}
theorem mn_a0 (h : MnI n D f g i (fun _ _ => False) W) : MnI n D f g i (prA A A g) W := h.congr fun p b _ _ _ _ => ⟨False.elim, fun q => by have := q.1; rw [q.2.1] at this; cases this⟩
theorem mn_x0 (h : MnI n D f g i (prA A Lf g) W) : MnI n D f g i (prX A Lf g (gt X x).er x (0 : Int).toNat) W := h.congr fun p b _ _ _ _ => ⟨.inl, fun q => q.elim id fun q => by obtain ⟨_, e, he, _⟩ := q; simp at he⟩
theorem prX_next {E : List EG} {k : Int} (k0 : 0 ≤ k) (k1 : k < (E.length : Int)) (p b : Int) : (prX A Lf g E x k.toNat p b ∨ (p = x ∧ b = (gt E k).et)) ↔ prX A Lf g E x (k + 1).toNat p b := by
  unfold prX
  rw [nat_1 k0, List.take_add_one, gt_at k0 k1]
  constructor
  · rintro ((q | ⟨q, e, he, q2⟩) | ⟨q, q2⟩)
    · exact .inl q
    · exact .inr ⟨q, e, List.mem_append_left _ he, q2⟩
    · exact .inr ⟨q, _, List.mem_append_right _ (by simp), q2.symm⟩
  · rintro (q | ⟨q, e, he, q2⟩)
    · exact .inl (.inl q)
    · rcases List.mem_append.1 he with he | he
      · exact .inl (.inr ⟨q, e, he, q2⟩)
      · simp at he; subst he; exact .inr ⟨q, q2.symm⟩
theorem mn_x1y {k : Int} (hA : SrR n f A) (hL : LfI A Lf) (hX : BkG n g (fun _ j => j < n) X) (hx : (x, v) ∈ Lf) (i0 : 0 ≤ i ∧ i < n) (k0 : 0 ≤ k) (k1 : k < ((gt X x).er.length : Int)) (h : MnI n D f g i (prX A Lf g (gt X x).er x k.toNat) W) (hc : gt W (i * n + (gt (gt X x).er k).et) < 0 ∨ v.ld + (gt (gt X x).er k).ew < gt W (i * n + (gt (gt X x).er k).et)) :
    MnI n D f g i (prX A Lf g (gt X x).er x (k + 1).toNat) (W.set (i * n + (gt (gt X x).er k).et).toNat (v.ld + (gt (gt X x).er k).ew)) := by
  have hv := lf_at hA hL hx
  have he := hX.ok x hv.1.1 hv.1.2 _ (gtM k0 k1)
  rw [hv.2.1, he.2.1] at hc ⊢
  exact (mn_yes i0 hv.1 he.1 h (by omega) hc).congr fun p b _ _ _ _ => prX_next k0 k1 p b
theorem mn_x1n {k : Int} (hA : SrR n f A) (hL : LfI A Lf) (hX : BkG n g (fun _ j => j < n) X) (hx : (x, v) ∈ Lf) (k0 : 0 ≤ k) (k1 : k < ((gt X x).er.length : Int)) (h : MnI n D f g i (prX A Lf g (gt X x).er x k.toNat) W) (hc : ¬ (gt W (i * n + (gt (gt X x).er k).et) < 0 ∨ v.ld + (gt (gt X x).er k).ew < gt W (i * n + (gt (gt X x).er k).et))) :
    MnI n D f g i (prX A Lf g (gt X x).er x (k + 1).toNat) W := by
  have hv := lf_at hA hL hx
  have he := hX.ok x hv.1.1 hv.1.2 _ (gtM k0 k1)
  rw [hv.2.1, he.2.1] at hc
  exact (mn_no h hc).congr fun p b _ _ _ _ => prX_next k0 k1 p b
theorem mn_x2 {k : Int} (hA : SrR n f A) (hL : LfI A Lf) (hX : BkG n g (fun _ j => j < n) X) (hx : (x, v) ∈ Lf) (k1 : ((gt X x).er.length : Int) ≤ k) (h : MnI n D f g i (prX A Lf g (gt X x).er x k.toNat) W) : MnI n D f g i (prA A (Lf.filter (fun q => decide (q.1 ≠ x))) g) W := by
  have hv := lf_at hA hL hx
  have hax : mhas A x = true := mhas_iff.2 ⟨v, hL.sub _ hx⟩
  have hlx : mhas Lf x = true := mhas_iff.2 ⟨v, hx⟩
  refine h.congr fun p b p0 p1 b0 b1 => ?_
  unfold prX prA
  rw [List.take_of_length_le (by omega)]
  constructor
  · rintro (⟨q1, q2, q3⟩ | ⟨rfl, e, he, rfl⟩)
    · exact ⟨q1, has_del.2 (.inr q2), q3⟩
    · have := hX.ok p p0 p1 e he
      exact ⟨hax, has_del.2 (.inl rfl), by omega⟩
  · rintro ⟨q1, q2, q3⟩
    rcases has_del.1 q2 with rfl | q2
    · exact .inr ⟨rfl, hX.all p b p0 p1 b0 b1 b1 q3⟩
    · exact .inl ⟨q1, q2, q3⟩
end
theorem mn_next {n i : Int} {F G : Int → Int → Int} {D : Int → Int → Int} {A : List (Int × LA)} {W : List Int} (i0 : 0 ≤ i ∧ i < n) (hA : SrR n (F i) A) (hD : ∀ j : Int, 0 ≤ j → j < n → bst F G i j n.toNat = D i j) (h : MnI n D (F i) G i (prA A [] G) W) : MnI n D (F (i + 1)) G (i + 1) (fun _ _ => False) W := by
  refine mn_row i0.1 h fun b b0 b1 => ?_
  rw [← hD b b0 b1]
  have hp : ∀ k : Int, 0 ≤ k → k < n → (prA A [] G k b ↔ 0 ≤ F i k ∧ 0 ≤ G k b) := fun k k0 k1 => by
    constructor
    · rintro ⟨q1, _, q3⟩
      exact ⟨(hA.yes k _ (lo_has q1)).2.2.1, q3⟩
    · rintro ⟨q1, q2⟩
      refine ⟨?_, rfl, q2⟩
      refine Classical.byContradiction fun c => ?_
      have := hA.no k k0 k1 (lo_none.2 (by simpa using c)); omega
  rcases bst_spec (A := F) (B := G) (i := i) (j := b) n.toNat with ⟨h1, h2⟩ | ⟨h1, ⟨k, k0, k1, k2, k3, k4⟩, h3⟩ <;> rcases h.at_ i0.2 b b0 b1 with ⟨g1, g2⟩ | ⟨g1, ⟨p, g2, g3, g4⟩, g5⟩
  · rw [h1, g1]
  · exact absurd ((hp p g2.1 g2.2).1 g3) (h2 p g2.1 (by omega))
  · exact absurd ((hp k k0 (by omega)).2 ⟨k2, k3⟩) (g2 k k0 (by omega))
  · have q1 := (hp p g2.1 g2.2).1 g3
    have q2 := h3 p g2.1 (by omega) q1.1 q1.2
    have q3 := g5 k k0 (by omega) ((hp k k0 (by omega)).2 ⟨k2, k3⟩)
    omega
theorem mn_mf {n : Int} {D : Int → Int → Int} {f : Int → Int} {g : Int → Int → Int} {pr : Int → Int → Prop} {W : List Int} (h : MnI n D f g n pr W) : MF n W D := ⟨h.len, fun x y x0 x1 y0 y1 => h.up x y x0 x1 y0 y1⟩
end Go.SX
namespace Go.SX
open Go Go.RowKit
theorem ra8 : RoadOk 3 [(AR.mk 0 1 4 0), (AR.mk 1 2 0 0)] := ⟨by decide, by decide, fun i i0 i1 => by
  have i1 : i < 2 := i1
  rcases (by omega : i = 0 ∨ i = 1) with rfl | rfl <;> (unfold arcOk; decide)⟩
theorem aw8a : dsF 3 (tabF 3 false [(AR.mk 0 1 4 0), (AR.mk 1 2 0 0)]) 0 2 = 4 := by decide +kernel
theorem aw8b : dsF 3 (tabF 3 false [(AR.mk 0 1 4 0), (AR.mk 1 2 0 0)]) 2 0 = -1 := by decide +kernel
theorem rch_app {f : Int → Int} {a : Nat} : ∀ {b : Nat}, a ≤ b → ∃ X Y, rcP f b = rcP f a ++ X ∧ rcW f b = rcW f a ++ Y ∧ Y.length = X.length
  | 0, h => ⟨[], [], by rw [show a = 0 from by omega]; simp, by rw [show a = 0 from by omega]; simp, rfl⟩
  | b + 1, h => by
    by_cases e : a = b + 1
    · exact ⟨[], [], by rw [e]; simp, by rw [e]; simp, rfl⟩
    · obtain ⟨X, Y, h1, h2, h3⟩ := rch_app (f := f) (a := a) (b := b) (by omega)
      have e1 : rcP f (b + 1) = if 0 ≤ f b then rcP f b ++ [(b : Int)] else rcP f b := rfl
      have e2 : rcW f (b + 1) = if 0 ≤ f b then rcW f b ++ [f b] else rcW f b := rfl
      by_cases c : 0 ≤ f b
      · rw [if_pos c] at e1 e2
        exact ⟨X ++ [(b : Int)], Y ++ [f b], by rw [e1, h1, List.append_assoc], by rw [e2, h2, List.append_assoc], by simp [h3]⟩
      · rw [if_neg c] at e1 e2
        exact ⟨X, Y, e1.trans h1, e2.trans h2, h3⟩
theorem rch_at {f : Int → Int} {n q : Int} (q0 : 0 ≤ q) (q1 : q < n) (h : 0 ≤ f q) : ((rcP f q.toNat).length : Int) < (rcP f n.toNat).length ∧ ((rcP f q.toNat).length : Int) < (rcW f n.toNat).length ∧ gt (rcP f n.toNat) ((rcP f q.toNat).length : Int) = q ∧ gt (rcW f n.toNat) ((rcP f q.toNat).length : Int) = f q ∧ ((rcP f (q + 1).toNat).length : Int) = (rcP f q.toNat).length + 1 := by
  obtain ⟨X, Y, h1, h2, h3⟩ := rch_app (f := f) (a := q.toNat + 1) (b := n.toNat) (by omega)
  have e1 : rcP f (q.toNat + 1) = rcP f q.toNat ++ [q] := by
    show (if 0 ≤ f ((q.toNat : Nat) : Int) then _ else _) = _
    rw [show ((q.toNat : Nat) : Int) = q from by omega, if_pos h]
  have e2 : rcW f (q.toNat + 1) = rcW f q.toNat ++ [f q] := by
    show (if 0 ≤ f ((q.toNat : Nat) : Int) then _ else _) = _
    rw [show ((q.toNat : Nat) : Int) = q from by omega, if_pos h]
  have e3 := (rch_len (f := f) q.toNat).2
  rw [e1, List.append_assoc] at h1
  rw [e2, List.append_assoc] at h2
  have g : ∀ (A B : List Int) (x : Int), gt (A ++ ([x] ++ B)) (A.length : Int) = x := fun A B x => by
    unfold gt; rw [Int.toNat_natCast, List.getD_eq_getElem?_getD, List.getElem?_append_right (Nat.le_refl _), Nat.sub_self]; rfl
  refine ⟨by rw [h1]; simp only [List.length_append, List.length_singleton]; omega, by rw [h2]; simp only [List.length_append, List.length_singleton]; omega, by rw [h1]; exact g _ _ _, ?_, ?_⟩
  · rw [h2, ← e3]; exact g _ _ _
  · rw [nat_1 q0, e1, List.length_append]; rfl
theorem rch_not {f : Int → Int} {q : Int} (q0 : 0 ≤ q) (h : f q < 0) : rcP f (q + 1).toNat = rcP f q.toNat := by
  rw [nat_1 q0]
  show (if 0 ≤ f ((q.toNat : Nat) : Int) then _ else _) = _
  rw [show ((q.toNat : Nat) : Int) = q from by omega, if_neg (by omega)]
end Go.SX
set_option maxRecDepth 20000
set_option maxHeartbeats 8000000
namespace Go.Proofs.Ytpjblnmophcdmaa.Sx.FA
open Go Go.SX Go.Proofs Go.Proofs.Try
theorem hbd66 : hasBody prog 66 = true := by kernel_rfl
theorem ty3 : ty prog 3 = some (false, 1) := by kernel_rfl
theorem fo54_2 : fo prog 54 2 = some 2 := by kernel_rfl
theorem fo54_3 : fo prog 54 3 = some 3 := by kernel_rfl
end Go.Proofs.Ytpjblnmophcdmaa.Sx.FA
namespace Go.Proofs.Ytpjblnmophcdmaa.Sx
open Go Go.SX Go.Proofs Go.Proofs.Try FA
theorem isnan_ (a : Int) (S : Nat → Prop) (wf : World) :
  TR0 prog 66 [.int .i64 a] [] S wf (fun v_ C_ => v_ = .bool false ∧ C_ = []) := by
 refine TR.mk func66 G ntmps66 G G (fun w_ => ?_)
 refine .seq (.region (.a G G G (.go idQ (.seq (.region (.m G G G ?_))))))
 refine .m G G G (.e G G G G G (.a G G G (.go idQ ?_)))
 exact .ret idQ (ret1 results66 G .n ⟨(congrArg Value.bool (by simp)), G⟩)
theorem cmp_ (a : Int) (b : Int) (S : Nat → Prop) (wf : World) :
  TR0 prog 55 [.int .i64 a, .int .i64 b] [] S wf (fun v_ C_ => v_ = .int .i64 (cmpI a b) ∧ C_ = []) := by
 refine TR.mk func55 G ntmps55 G G (fun w_ => ?_)
 refine .seq (.region (.a G G G (.go idQ (.seq (.region (.m G G G ?_))))))
 refine .cons (st_callk G G G G hbd66 G .n (isnan_ a _ _) ?_)
 refine .a G G G (.go idQ (.seq (.region (.m G G G (.cons (st_callk G G G G hbd66 G .n (isnan_ b _ _) ?_))))))
 refine .a G G G (.go idQ (.seq (.seq (.region (.m G G G (.go idQ ?_))))))
 refine .cond_f G ?_
 refine .skipgo idQ (.seq (.seq (.region (.m G G G (.go idQ (.cond_f G ?_))))))
 refine .skipgo idQ (.seq (.seq (.region (.m G G G (.m G G G (.e G G G G G ?_))))))
 refine .go idQ (.condI G bD (fun h1 => ?_) (fun h1 => ?_))
 ·
  refine .seq (.region (.a G G G (.go idQ (.ret idQ (ret1 results55 G .n ⟨(congrArg (Value.int .i64) (by unfold cmpI; repeat (first | rw [if_pos (by assumption)] | rw [if_neg (by assumption)]))), G⟩)))))
 refine .skipgo idQ (.seq (.seq (.region (.m G G G (.m G G G (.e G G G G G ?_))))))
 refine .go idQ (.condI G bD (fun h2 => ?_) (fun h2 => ?_))
 ·
  refine .seq (.region (.a G G G (.go idQ (.ret idQ (ret1 results55 G .n ⟨(congrArg (Value.int .i64) (by unfold cmpI; repeat (first | rw [if_pos (by assumption)] | rw [if_neg (by assumption)]))), G⟩)))))
 refine .skipgo idQ (.seq (.region (.a G G G (.go idQ (.ret idQ (ret1 results55 G .n ⟨(congrArg (Value.int .i64) (by unfold cmpI; repeat (first | rw [if_pos (by assumption)] | rw [if_neg (by assumption)]))), G⟩))))))
theorem or_ (A : Option Addr) (c : Nat) (l : List Int) (S : Nat → Prop) (wf : World) (hA : Fr eZ S wf A l) :
  TR0 prog 54 [.slice A l.length c] [] S wf (fun v_ C_ => ∃ (r : Int), (r = orF l) ∧ v_ = .int .i64 r ∧ C_ = []) := by
 have hla := hA.len
 refine TR.mk func54 G ntmps54 G G (fun w_ => ?_)
 refine .seq (.region (.a G G G (.go idQ (.seq (.region (.a G G G ?_))))))
 refine .go idQ (.seq (.seq (.region (.m G G G (.g underlying27 G G G (.m G G G ?_))))))
 refine .go idQ (.block (.loop (X := Int) (fun i => 0 ≤ i ∧ i ≤ (l.length : Int) ∧ orF (l.drop i.toNat) = orF l) (fun i => [(3, .int .i64 0), (6, .slice A l.length c), (7, .int .i64 (l.length : Int)), (8, .int .i64 i)]) (fun i => []) (fun _ => S) (fun _ => wf) (fun i => ((l.length : Int) - i).toNat) (fun a_ w_ hs_ hw_ => ⟨0, (by (try dsimp only); exact ⟨oO, oO, G⟩), hs_.mono (Sub.get (.c4 G G G G .n)), hw_.keep .n⟩) (fun i ⟨q_0, q_1, q_2⟩ => ?_)))
 try dsimp only
 refine .seq (.region (.e G G G G G (.go idQ (.seq (.condI G bD (fun h1 => ?_) (fun h1 => ?_))))))
 ·
  refine .skipgo idQ (.seq (.block (.seq (.region (.v (ev_ix G underlying27 ty3 G G oO oO (fun _ _ => Fr.adr (i := i) hA oO oO)) G (.v (ev_ld1 G ty3 G (At.elem1 (At.w (Fr.el (i := i) hA oO oO)) 0 G)) G (.a G G G ?_)))))))
  refine .go idQ (.seq (.region (.m G G G (.m G G G (.e G G G G G ?_)))))
  refine .go idQ (.condI G bNE (fun h2 => ?_) (fun h2 => ?_))
  ·
   refine .seq (.region (.m G G G (.a G G G (.go idQ ?_))))
   exact .ret idQ (ret1 results54 G .n ⟨(gt l i), (or_at q_2 oO oO (by assumption)), G, G⟩)
  refine .skipgo idQ (.region (.p ((i + 1)) oO oO G G G G G (.m G G G ?_)))
  exact SP.nil (SQ.roundb (X := Int) (x := (i)) (i + 1) (by (try dsimp only); exact ⟨oO, oO, (or_next q_2 oO oO (by assumption))⟩) (by show (_ : Nat) < _; omega) (Sub.get (.c4 G G G G .n)) (kp .n))
 refine .exit idQ ?_
 refine .seq (.region (.m G G G (.a G G G (.go idQ ?_))))
 exact .ret idQ (ret1 results54 G .n ⟨0, (or_end q_2 oO), G, G⟩)
theorem time_ (a : AR) (S : Nat → Prop) (wf : World) :
  TR0 prog 24 [.agg #[.int .i64 a.fr, .int .i64 a.to, .int .i64 a.tm, .int .i64 a.ds]] [] S wf (fun v_ C_ => v_ = .int .i64 a.tm ∧ C_ = []) := by
 refine TR.mk func24 G ntmps24 G G (fun w_ => ?_)
 refine .seq (.region (.cons (st_boxa G G G G G (fun b1 => (.a G G G (.go idQ (.seq (.region ?_))))))))
 refine .f fo54_2 2 G G G G (.l ty3 0 G G G G G (.a G G G (.go idQ ?_)))
 exact .ret idQ (ret1 results24 G .n ⟨G, G⟩)
theorem dist_ (a : AR) (S : Nat → Prop) (wf : World) :
  TR0 prog 25 [.agg #[.int .i64 a.fr, .int .i64 a.to, .int .i64 a.tm, .int .i64 a.ds]] [] S wf (fun v_ C_ => v_ = .int .i64 a.ds ∧ C_ = []) := by
 refine TR.mk func25 G ntmps25 G G (fun w_ => ?_)
 refine .seq (.region (.cons (st_boxa G G G G G (fun b1 => (.a G G G (.go idQ (.seq (.region ?_))))))))
 refine .f fo54_3 3 G G G G (.l ty3 0 G G G G G (.a G G G (.go idQ ?_)))
 exact .ret idQ (ret1 results25 G .n ⟨G, G⟩)
theorem in_ (x : Int) (m : Int) (S : Nat → Prop) (wf : World) :
  TR0 prog 64 [.int .i64 x, .int .i64 m] [] S wf (fun v_ C_ => v_ = .bool (decide (x ≥ 0) && decide (x ≤ m)) ∧ C_ = []) := by
 refine TR.mk func64 G ntmps64 G G (fun w_ => ?_)
 refine .seq (.region (.a G G G (.go idQ (.seq (.region (.m G G G ?_))))))
 refine .e G G G G G (.m G G G (.w (fun _ => ev_mv G G) G (.w (fun _ => ev_mv G G) G ?_)))
 refine .w (fun hb => ev_cmp G (lkg G hb) (lkg G hb) G) G (.v (ev_and G G G G) G (.a G G G (.go idQ ?_)))
 exact .ret idQ (ret1 results64 G .n ⟨G, G⟩)
end Go.Proofs.Ytpjblnmophcdmaa.Sx
set_option maxRecDepth 20000
set_option maxHeartbeats 8000000
namespace Go.Proofs.Ytpjblnmophcdmaa.Sx.FB
open Go Go.SX Go.Proofs Go.Proofs.Try FA FB
theorem fo24_0 : fo prog 24 0 = some 0 := by kernel_rfl
theorem fo24_1 : fo prog 24 1 = some 1 := by kernel_rfl
theorem ty22 : ty prog 22 = some (false, 1) := by kernel_rfl
theorem ty54 : ty prog 54 = some (true, 4) := by kernel_rfl
theorem zf54 : (prog.info? 54).bind (fun i => i.zero.map Value.cells) = some (List.toArray [.int .i64 0, .int .i64 0, .int .i64 0, .int .i64 0]) := by kernel_rfl
theorem fo54_0 : fo prog 54 0 = some 0 := by kernel_rfl
theorem hbd64 : hasBody prog 64 = true := by kernel_rfl
theorem fo54_1 : fo prog 54 1 = some 1 := by kernel_rfl
theorem zf24 : (prog.info? 24).bind (fun i => i.zero.map Value.cells) = some (List.toArray [.int .i64 0, .slice none 0 0]) := by kernel_rfl
theorem ai54 : (prog.info? 54).map (fun i => (i.zero, i.size, i.bytes)) = some (some (.agg #[.int .i64 0, .int .i64 0, .int .i64 0, .int .i64 0]), 4, 32) := by kernel_rfl
theorem ty24 : ty prog 24 = some (true, 2) := by kernel_rfl
theorem zf29 : (prog.info? 29).bind (fun i => i.zero.map Value.cells) = some (List.toArray [.int .i64 0, .slice none 0 0]) := by kernel_rfl
theorem ty29 : ty prog 29 = some (true, 2) := by kernel_rfl
theorem fo29_1 : fo prog 29 1 = some 1 := by kernel_rfl
theorem ty27 : ty prog 27 = some (false, 1) := by kernel_rfl
theorem ai3 : (prog.info? 3).map (fun i => (i.zero, i.size, i.bytes)) = some (some (.int .i64 0), 1, 8) := by kernel_rfl
theorem fo29_0 : fo prog 29 0 = some 0 := by kernel_rfl
theorem mo : prog.follows .mixedOrders = true := by kernel_rfl
end Go.Proofs.Ytpjblnmophcdmaa.Sx.FB
namespace Go.Proofs.Ytpjblnmophcdmaa.Sx
open Go Go.SX Go.Proofs Go.Proofs.Try FA FB
theorem rdchk_ (n : Int) (A : Option Addr) (c : Nat) (l : List AR) (S : Nat → Prop) (wf : World) (hA : Fr eAR S wf A l) :
  TR0 prog 50 [.agg #[.int .i64 n, .slice A l.length c]] [] S wf (fun v_ C_ => ∃ (x : Int) (e : Int), ((e = 0 ∧ RoadOk n l) ∨ (e ≠ 0 ∧ ¬ RoadOk n l)) ∧ v_ = .tuple #[.int .i64 x, .int .i64 e] ∧ C_ = []) := by
 have hla := hA.len
 refine TR.mk func50 G ntmps50 G G (fun w_ => ?_)
 refine .seq (.region (.cons (st_boxa G G G G G (fun b1 => (.a G G G (.a G G G ?_))))))
 refine .go idQ (.seq (.seq (.region (.f fo24_0 0 G G G G (.l ty3 0 G G G G G (.e G G G G G ?_))))))
 refine .m G G G (.w (fun _ => ev_fa G fo24_0 G (r := 0) G) G (.w (fun hb => ev_ld1 G ty3 (lkg G hb) (At.own1 0 G G)) G (.w (fun hb => ev_cmp G (lkg G hb) G G) G ?_)))
 refine .r G G G G G (.m G G G (.w (fun _ => ev_fa G fo24_1 G (r := 1) G) G (.w (fun hb => ev_ld1 G ty22 (lkg G hb) (At.own1 0 G G)) G ?_)))
 refine .w (fun hb => ev_len G underlying22 (lkg G hb)) G (.w (fun hb => ev_cmp G (lkg G hb) G G) G (.r G G G G G (.go idQ ?_)))
 refine .condI G (bO (bO bD bD) bD) (fun h2 => ?_) (fun h2 => ?_)
 ·
  refine .seq (.region (.a G G G (.a G G G (.go idQ ?_))))
  exact .ret idQ (ret2 results50 G G .n ⟨(-1), 2, (.inr ⟨by decide, fun hR => by have h1 := hR.pl; have h2 := hR.len; omega⟩), G, G⟩)
 refine .skipgo idQ (.seq (.region (.a G G G (.go idQ (.seq (.seq (.region (.f fo24_1 1 G G G G ?_))))))))
 refine .l ty22 0 G G G G G (.g underlying22 G G G (.m G G G (.go idQ (.block ?_))))
 refine .loop (X := Int) (fun i => 0 ≤ i ∧ i ≤ (l.length : Int) ∧ (∀ j : Int, 0 ≤ j → j < i → arcOk n (gt l j))) (fun i => [(1, .pointer (some ⟨b1, 0, none⟩)), (4, .func (.func 64) #[] #[]), (22, .slice A l.length c), (23, .int .i64 (l.length : Int)), (24, .int .i64 i)]) (fun i => [cel b1 [.int .i64 n, .slice A l.length c] 24]) (fun _ => S) (fun _ => wf) (fun i => ((l.length : Int) - i).toNat) (fun a_ w_ hs_ hw_ => ⟨0, (by (try dsimp only); exact ⟨oO, oO, (fun j j0 j1 => absurd j1 oO)⟩), hs_.mono (Sub.get (.c4 G G G G (.c G .n))), hw_.keep (.c .h .n)⟩) (fun i ⟨q_0, q_1, q_2⟩ => ?_)
 try dsimp only
 refine .seq (.region (.e G G G G G (.go idQ (.seq (.condI G bD (fun h3 => ?_) (fun h3 => ?_))))))
 ·
  refine .skipgo idQ (.seq (.block (.seq (.region (.m G G G (.v (ev_ix G underlying22 ty54 G G oO oO (fun _ _ => Fr.adr (i := i) hA oO oO)) G (.v (ev_lda G G (At.w (Fr.el (i := i) hA oO oO)) ty54) G ?_)))))))
  refine .cons (st_alloc G G G G zf54 (fun b4 => ?_))
  refine .a G G G (.cons (st_storea (l' := [.int .i64 ((gt l i).fr), .int .i64 ((gt l i).to), .int .i64 ((gt l i).tm), .int .i64 ((gt l i).ds)]) G G G ty54 G G G .h G G (.go idQ (.block (.seq (.region (.m G G G ?_)))))))
  refine .f fo54_0 0 G G G G (.l ty3 0 G G G G G (.f fo24_0 0 G G G G (.l ty3 1 G G G G G ?_)))
  refine .v (ev_sub G G G (r := (n - 1)) G oO oO) G (.cons (.viafun G G (st_callk G G G G hbd64 G .n (in_ ((gt l i).fr) (n - 1) _ _) (.v (ev_not G G) G (.m G G G ?_)))))
  refine .w (fun _ => ev_mv G G) G (.w (fun _ => ev_fa G fo54_1 G (r := 1) G) G (.w (fun hb => ev_ld1 G ty3 (lkg G hb) (At.own1 0 G G)) G (.w (fun _ => ev_fa G fo24_0 G (r := 0) G) G ?_)))
  refine .w (fun hb => ev_ld1 G ty3 (lkg G hb) (At.own1 1 G G)) G (.w (fun hb => have hp := bF (bN (bA bD bD)) hb; ev_sub G (lkg G hb) G (r := (n - 1)) G (by have _h := hp; omega) (by have _h := hp; omega)) G (.cons (st_gcallkf G G G G G G (fun hb => (lkg G hb)) hbd64 (fun hb => (lkA1 (lkg G hb) (lkA1 (lkg G hb) lkA0))) .n (fun hb => have hp := bF (bN (bA bD bD)) hb; in_ ((gt l i).to) (n - 1) _ _) (.w (fun hb => ev_not G (lkg G hb)) G ?_))))
  refine .r G G G G G (.a G G G (.go idQ (.condI G (bO (bN (bA bD bD)) (bN (bA bD bD))) (fun h5 => ?_) (fun h5 => ?_))))
  ·
   refine .seq (.region (.m G G G (.a G G G (.a G G G ?_))))
   refine .go idQ (.ret idQ (ret2 results50 G G .n ⟨i, 44, (.inr ⟨by decide, fun hR => by have h1 := hR.arc i oO oO; unfold arcOk at h1; omega⟩), G, G⟩))
  refine .seq (.region (.m G G G (.f fo54_2 2 G G G G (.l ty3 0 G G G G G ?_))))
  refine .cons (.viafun G G (st_callk G G G G hbd64 G .n (in_ ((gt l i).tm) 1000000 _ _) ?_))
  refine .v (ev_not G G) G (.m G G G (.w (fun _ => ev_mv G G) G (.w (fun _ => ev_fa G fo54_3 G (r := 3) G) G ?_)))
  refine .w (fun hb => ev_ld1 G ty3 (lkg G hb) (At.own1 0 G G)) G (.cons (st_gcallkf G G G G G G (fun hb => (lkg G hb)) hbd64 (fun hb => (lkA1 (lkg G hb) (lkA1 G lkA0))) .n (fun hb => have hp := bF (bN (bA bD bD)) hb; in_ ((gt l i).ds) 1000000 _ _) (.w (fun hb => ev_not G (lkg G hb)) G (.r G G G G G ?_))))
  refine .a G G G (.go idQ (.condI G (bO (bN (bA bD bD)) (bN (bA bD bD))) (fun h6 => ?_) (fun h6 => ?_)))
  ·
   refine .seq (.region (.m G G G (.a G G G (.a G G G ?_))))
   refine .go idQ (.ret idQ (ret2 results50 G G .n ⟨i, 2, (.inr ⟨by decide, fun hR => by have h1 := hR.arc i oO oO; unfold arcOk at h1; omega⟩), G, G⟩))
  refine .skipgo idQ (.region (.p ((i + 1)) oO oO G G G G G (.m G G G ?_)))
  exact SP.nil (SQ.roundb (X := Int) (x := (i)) (i + 1) (by (try dsimp only); exact ⟨oO, oO, (upN q_2 (by unfold arcOk; omega))⟩) (by show (_ : Nat) < _; omega) (Sub.get (.c4 G G G G (.c G .n))) (kp (.c (.t .h) .n)))
 refine .exit idQ ?_
 refine .seq (.region (.a G G G (.a G G G (.go idQ ?_))))
 exact .ret idQ (ret2 results50 G G .n ⟨(-1), 0, (.inl ⟨G, ⟨by omega, by omega, fun j j0 j1 => q_2 j j0 oO⟩⟩), G, G⟩)
theorem rdcop_ (n : Int) (A : Option Addr) (c : Nat) (l : List AR) (S : Nat → Prop) (wf : World) (hA : Fr eAR S wf A l) (hl : l.length ≤ 300) :
  TR0 prog 27 [.agg #[.int .i64 n, .slice A l.length c]] [] S wf (fun v_ C_ => ∃ (u : Value), v_ = .agg #[.int .i64 n, u] ∧ C_ = [rw_ eAR 54 (u) l]) := by
 have hla := hA.len
 refine TR.mk func27 G ntmps27 G G (fun w_ => ?_)
 refine .seq (.region (.cons (st_boxa G G G G G (fun b1 => (.cons (st_alloc G G G G zf24 (fun b2 => (.go idQ (.seq (.region ?_))))))))))
 refine .cons (st_lit eAR (e := 54) (l := []) G G G G kR G G kW (fun b3 => ?_))
 refine .f fo24_1 1 G G G G (.l ty22 2 G G G G G (.cons (st_app0 (E := eAR) (m := l) G G G G underlying22 ai54 G G G .h rO (Src.w (Fr.flat hA)) lO G (fun v4 => (.f fo24_1 1 G G G G ?_)))))
 refine .know (row_len 0 G) (fun hv7 => ?_)
 obtain ⟨A5, c6, rfl, hv7_1, hv7_2⟩ := hv7
 unfold maxLen at hv7_2
 refine .cons (st_store1 G G G ty22 G G G (.t2 .h) (.t .h) ?_)
 refine .go idQ (.seq (.region (.d 0 ty24 G G G G (.cons (st_storea (l' := [.int .i64 n, .slice A5 l.length c6]) G G G ty24 G G G (.t2 .h) G G (.go idQ ?_))))))
 exact .ret idQ (retv1 results27 (.c 0 G G ty24) (.c (.t2 .h) .n) ⟨.slice A5 l.length c6, G, G⟩)
theorem tab_ (n : Int) (A : Option Addr) (c : Nat) (l : List AR) (d : Bool) (S : Nat → Prop) (wf : World) (hA : Fr eAR S wf A l) (hR : RoadOk n l) :
  TR0 prog 28 [.agg #[.int .i64 n, .slice A l.length c], .bool d] [] S wf (fun v_ C_ => ∃ (u : Value), v_ = .agg #[.int .i64 n, u] ∧ C_ = [rw_ eZ 3 (u) (tabF n d l)]) := by
 have hla := hA.len
 have h1 := hR.pl
 have h2 := hR.len
 have hsq := sq_le h1
 refine TR.mk func28 G ntmps28 G G (fun w_ => ?_)
 refine .seq (.region (.cons (st_boxa G G G G G (fun b1 => (.cons (st_alloc G G G G zf29 (fun b2 => (.go idQ (.seq (.region ?_))))))))))
 refine .f fo24_0 0 G G G G (.l ty3 1 G G G G G (.v (ev_any (v := .agg #[.int .i64 n, .slice none 0 0]) G kR (fun _ => by kernel_rfl)) G (.cons (st_alloc G G G G zf29 (fun b3 => ?_)))))
 refine .cons (st_storea (l' := [.int .i64 n, .slice none 0 0]) G G G ty29 G G G .h G G ?_)
 refine .go idQ (.seq (.seq (.region (.a G G G (.go idQ (.block ?_))))))
 refine SC.nilrow eZ 3 ?_
 refine .loop (X := Int × (List Int) × Value) (fun ⟨k, X, u_X⟩ => 0 ≤ k ∧ k ≤ (n * n) ∧ X = List.replicate k.toNat (-1 : Int)) (fun ⟨k, X, u_X⟩ => [(1, .bool d), (2, .pointer (some ⟨b1, 0, none⟩)), (4, .pointer (some ⟨b2, 0, none⟩)), (5, .pointer (some ⟨b3, 0, none⟩)), (6, .int .i64 k)]) (fun ⟨k, X, u_X⟩ => [rw_ eZ 3 (u_X) X, cel b3 [.int .i64 n, u_X] 29, cel b2 [.int .i64 0, .slice none 0 0] 29, cel b1 [.int .i64 n, .slice A l.length c] 24]) (fun _ => S) (fun _ => wf) (fun ⟨k, X, u_X⟩ => ((n * n) - k).toNat) (fun a_ w_ hs_ hw_ => ⟨⟨0, ([] : List Int), .slice none 0 0⟩, (by (try dsimp only); exact ⟨oO, oO, (by rfl)⟩), hs_.mono (Sub.get (.c4 G G G G (.c G .n))), hw_.keep (.d (.d .n))⟩) (fun ⟨k, X, u_X⟩ ⟨q_0, q_1, q_2⟩ => ?_)
 try dsimp only
 have hxl : X.length = k.toNat := by rw [q_2, List.length_replicate]
 refine .seq (.seq (.region (.m G G G (.f fo24_0 0 G G G G (.l ty3 3 G G G G G ?_)))))
 refine .f fo24_0 0 G G G G (.l ty3 3 G G G G G (.v (ev_mul G G G (r := (n * n)) G oO oO) G (.e G G G G G ?_)))
 refine .go idQ (.condI G bD (fun h4 => ?_) (fun h4 => ?_))
 ·
  refine .skipgo idQ (.seq (.block (.region (.f fo29_1 1 G G G G (.l ty27 1 G G G G G (.cons (st_lit eZ (e := 3) (l := [(-1)]) G G G G kR G G kW (fun b5 => ?_))))))))
  refine .cons (st_app (E := eZ) (m := [(-1)]) G G G G underlying27 ai3 G G G (.t .h) rO (row_src 0 G) lO G (fun v6 => ?_))
  refine .f fo29_1 1 G G G G (.know (row_len 0 G) (fun hv9 => ?_))
  obtain ⟨A7, c8, rfl, hv9_1, hv9_2⟩ := hv9
  unfold maxLen at hv9_2
  refine .cons (st_store1 G G G ty27 G G G (.t2 .h) (.t .h) ?_)
  refine .go idQ (.region (.m G G G (.p ((k + 1)) oO oO G G G G G (.a G G G ?_))))
  exact SP.nil (SQ.roundb (X := Int × (List Int) × Value) (x := (k, X, u_X)) ⟨(k + 1), (X ++ [(-1)]), .slice A7 ((X ++ [(-1)]).length) c8⟩ (by (try dsimp only); exact ⟨oO, oO, (by rw [q_2]; exact (rep_snoc q_0).symm)⟩) dO (Sub.get (.c4 G G G G (.c G .n))) (kp (.c (.t .h) (.c .h (.c (.t .h) (.c (.t .h) .n))))))
 refine .exit idQ ?_
 refine .seq (.seq (.know (row_len 0 G) (fun hv12 => ?_)))
 obtain ⟨A10, c11, rfl, hv12_1, hv12_2⟩ := hv12
 unfold maxLen at hv12_2
 obtain rfl : k = n * n := by omega
 refine .region (.a G G G (.go idQ (.block (.loop (X := Int × (List Int) × Value) (fun ⟨i, Y, u_Y⟩ => 0 ≤ i ∧ i ≤ (l.length : Int) ∧ Y = (l.take i.toNat).foldl (cellSt n d) (List.replicate (n * n).toNat (-1 : Int)) ∧ Y.length = (n * n).toNat) (fun ⟨i, Y, u_Y⟩ => [(1, .bool d), (2, .pointer (some ⟨b1, 0, none⟩)), (4, .pointer (some ⟨b2, 0, none⟩)), (5, .pointer (some ⟨b3, 0, none⟩)), (6, .int .i64 (n * n)), (7, .int .i64 i)]) (fun ⟨i, Y, u_Y⟩ => [rw_ eZ 3 (u_Y) Y, cel b3 [.int .i64 n, u_Y] 29, cel b2 [.int .i64 0, .slice none 0 0] 29, cel b1 [.int .i64 n, .slice A l.length c] 24]) (fun _ => S) (fun _ => wf) (fun ⟨i, Y, u_Y⟩ => ((l.length : Int) - i).toNat) (fun a_ w_ hs_ hw_ => ⟨⟨0, X, .slice A10 X.length c11⟩, (by (try dsimp only); exact ⟨oO, oO, (by assumption), oO⟩), hs_.mono (Sub.get (.c4 G G G G (.c G (.c G .n)))), hw_.keep (.d (.d .n))⟩) (fun ⟨i, Y, u_Y⟩ ⟨r_0, r_1, r_2, r_3⟩ => ?_)))))
 try dsimp only
 refine .seq (.seq (.region (.m G G G (.f fo24_1 1 G G G G (.l ty22 3 G G G G G ?_)))))
 refine .g underlying22 G G G (.e G G G G G (.go idQ (.condI G bD (fun h13 => ?_) (fun h13 => ?_))))
 ·
  refine .skipgo idQ (.seq (.block (.seq ?_)))
  have hai := hR.arc i oO oO
  unfold arcOk at hai
  have hix := idx_rng (n := n) (a := (gt l i).fr) (b := (gt l i).to) ⟨hai.1, hai.2.1⟩ ⟨hai.2.2.1, hai.2.2.2.1⟩
  refine .region (.f fo24_1 1 G G G G (.l ty22 3 G G G G G (.m G G G ?_)))
  refine .v (ev_ix G underlying22 ty54 G G oO oO (fun _ _ => Fr.adr (i := i) hA oO oO)) G (.v (ev_lda G G (At.w (Fr.el (i := i) hA oO oO)) ty54) G (.cons (st_alloc G G G G zf54 (fun b14 => (.cons (st_storea (l' := [.int .i64 ((gt l i).fr), .int .i64 ((gt l i).to), .int .i64 ((gt l i).tm), .int .i64 ((gt l i).ds)]) G G G ty54 G G G .h G G ?_))))))
  refine .go idQ (.seq (.region (.f fo54_2 2 G G G G (.l ty3 0 G G G G G (.a G G G ?_)))))
  refine .go idQ (.seq (.seq (.region (.m G G G (.go idQ (.condI G bV (fun h15 => ?_) (fun h15 => ?_)))))))
  ·
   refine .region (.f fo54_3 3 G G G G (.l ty3 0 G G G G G (.a G G G ?_)))
   refine .go idQ (.seq (.region (.f fo54_0 0 G G G G (.l ty3 0 G G G G G (.f fo24_0 0 G G G G ?_)))))
   refine .l ty3 4 G G G G G (.v (ev_mul G G G (r := (((gt l i).fr) * n)) G oO oO) G (.f fo54_1 1 G G G G (.l ty3 0 G G G G G ?_)))
   refine .v (ev_add G G G (r := ((((gt l i).fr) * n) + ((gt l i).to))) G oO oO) G (.a G G G (.go idQ (.seq (.region (.f fo54_0 0 G G G G ?_)))))
   refine .l ty3 0 G G G G G (.f fo54_1 1 G G G G (.l ty3 0 G G G G G (.e G G G G G ?_)))
   refine .m G G G (.w (fun _ => ev_fa G fo29_1 G (r := 1) G) G (.w (fun hb => ev_ld1 G ty27 (lkg G hb) (At.own1 2 G G)) G (.w (fun _ => ev_mv G G) G ?_)))
   refine .know (row_len 1 G) (fun hv18 => ?_)
   obtain ⟨A16, c17, rfl, hv18_1, hv18_2⟩ := hv18
   unfold maxLen at hv18_2
   refine .w (fun hb => have hp := bT bNE hb; ev_ix G underlying27 ty3 (lkg G hb) (lkg G hb) (by have _h := hp; omega) (by have _h := hp; omega) (row_adr (i := ((((gt l i).fr) * n) + ((gt l i).to))) 1 G (by have _h := hp; omega) (by have _h := hp; omega))) G (.w (fun hb => have hp := bT bNE hb; ev_ld1 G ty3 (lkg G hb) (At.elem1 (row_el (E := eZ) (l := Y) (i := ((((gt l i).fr) * n) + ((gt l i).to))) 1 G (by have _h := hp; omega) (by have _h := hp; omega)) 0 G)) G (.w (fun hb => ev_cmp G (lkg G hb) G G) G (.w (fun hb => ev_mv G (lkg G hb)) G ?_)))
   refine .cons (Ev.ggstep (b1 := (((gt l i).fr) != ((gt l i).to))) (b := (decide ((gt Y ((((gt l i).fr) * n) + ((gt l i).to))) < 0))) cb_tf (fun hb1 _ => ev_mv G G) G G G G G ?_)
   refine .cons (Ev.ggstep (b1 := (((gt l i).fr) != ((gt l i).to))) (b := (decide ((gt Y ((((gt l i).fr) * n) + ((gt l i).to))) < 0))) cb_tf (fun hb1 _ => ev_fa G fo29_1 G (r := 1) G) G G G G G ?_)
   refine .cons (Ev.ggstep (b1 := (((gt l i).fr) != ((gt l i).to))) (b := (decide ((gt Y ((((gt l i).fr) * n) + ((gt l i).to))) < 0))) cb_tf (fun hb1 hb => ev_ld1 G ty27 (lkg G hb) (At.own1 2 G G)) G G G G G ?_)
   refine .cons (Ev.ggstep (b1 := (((gt l i).fr) != ((gt l i).to))) (b := (decide ((gt Y ((((gt l i).fr) * n) + ((gt l i).to))) < 0))) cb_tf (fun hb1 _ => ev_mv G G) G G G G G ?_)
   refine .cons (Ev.ggstep (b1 := (((gt l i).fr) != ((gt l i).to))) (b := (decide ((gt Y ((((gt l i).fr) * n) + ((gt l i).to))) < 0))) cb_tf (fun hb1 hb => have hp := bT (bA bNE (bN bD)) hb; ev_ix G underlying27 ty3 (lkg G hb) (lkg G hb) (by have _h := hp; omega) (by have _h := hp; omega) (row_adr (i := ((((gt l i).fr) * n) + ((gt l i).to))) 1 G (by have _h := hp; omega) (by have _h := hp; omega))) G G G G G ?_)
   refine .cons (Ev.ggstep (b1 := (((gt l i).fr) != ((gt l i).to))) (b := (decide ((gt Y ((((gt l i).fr) * n) + ((gt l i).to))) < 0))) cb_tf (fun hb1 hb => have hp := bT (bA bNE (bN bD)) hb; ev_ld1 G ty3 (lkg G hb) (At.elem1 (row_el (E := eZ) (l := Y) (i := ((((gt l i).fr) * n) + ((gt l i).to))) 1 G (by have _h := hp; omega) (by have _h := hp; omega)) 0 G)) G G G G G ?_)
   refine .cons (Ev.ggstep (b1 := (((gt l i).fr) != ((gt l i).to))) (b := (decide ((gt Y ((((gt l i).fr) * n) + ((gt l i).to))) < 0))) cb_tf (fun hb1 hb => ev_cmp G (lkg G hb) (lkg G hb) G) G G G G G ?_)
   refine .w (fun hb => ev_or G (lkg G hb) G (lkgn G cb_tf hb)) G (.v (ev_and G G G G) G (.go idQ (.condI G (bA bNE (bO bD bD)) (fun h19 => ?_) (fun h19 => ?_))))
   ·
    refine .region (.f fo29_1 1 G G G G (.l ty27 2 G G G G G (.m G G G ?_)))
    refine .m G G G (.v (ev_ix G underlying27 ty3 G G oO oO (row_adr (i := ((((gt l i).fr) * n) + ((gt l i).to))) 1 G oO oO)) G (.cons (st_setel (E := eZ) (i := ((((gt l i).fr) * n) + ((gt l i).to))) (cs := [.int .i64 ((gt l i).ds)]) (off := 0) ((gt l i).ds) G G G ty3 G G G G G (.t .h) lO lO (Nat.le_of_ble_eq_true G) G (.go idQ (.region ?_)))))
    refine .m G G G (.p ((i + 1)) oO oO G G G G G (.a G G G ?_))
    exact SP.nil (SQ.roundb (X := Int × (List Int) × Value) (x := (i, Y, (.slice A16 Y.length c17))) ⟨(i + 1), (Y.set (((((gt l i).fr) * n) + ((gt l i).to))).toNat ((gt l i).ds)), .slice A16 Y.length c17⟩ (by (try dsimp only); exact ⟨oO, oO, (tab_yes r_2 oO oO (by unfold wgt; rw [if_pos h15]) h19), (by (try rw [List.length_set]); exact r_3)⟩) dO (Sub.get (.c4 G G G G (.c G (.c G .n)))) (kp (.c .h (.c (.t .h) (.c (.t .h) (.c (.t .h) .n))))))
   refine .skipgo idQ (.region (.m G G G (.p ((i + 1)) oO oO G G G G G (.a G G G ?_))))
   exact SP.nil (SQ.roundb (X := Int × (List Int) × Value) (x := (i, Y, (.slice A16 Y.length c17))) ⟨(i + 1), Y, .slice A16 Y.length c17⟩ (by (try dsimp only); exact ⟨oO, oO, (tab_no r_2 oO oO (by unfold wgt; rw [if_pos h15]) h19), (by (try rw [List.length_set]); exact r_3)⟩) dO (Sub.get (.c4 G G G G (.c G (.c G .n)))) (kp (.c (.t .h) (.c (.t .h) (.c (.t .h) (.c (.t .h) .n))))))
  refine .skipgo idQ (.seq (.region (.f fo54_0 0 G G G G (.l ty3 0 G G G G G (.f fo24_0 0 G G G G ?_)))))
  refine .l ty3 4 G G G G G (.v (ev_mul G G G (r := (((gt l i).fr) * n)) G oO oO) G (.f fo54_1 1 G G G G (.l ty3 0 G G G G G ?_)))
  refine .v (ev_add G G G (r := ((((gt l i).fr) * n) + ((gt l i).to))) G oO oO) G (.a G G G (.go idQ (.seq (.region (.f fo54_0 0 G G G G ?_)))))
  refine .l ty3 0 G G G G G (.f fo54_1 1 G G G G (.l ty3 0 G G G G G (.e G G G G G ?_)))
  refine .m G G G (.w (fun _ => ev_fa G fo29_1 G (r := 1) G) G (.w (fun hb => ev_ld1 G ty27 (lkg G hb) (At.own1 2 G G)) G (.w (fun _ => ev_mv G G) G ?_)))
  refine .know (row_len 1 G) (fun hv22 => ?_)
  obtain ⟨A20, c21, rfl, hv22_1, hv22_2⟩ := hv22
  unfold maxLen at hv22_2
  refine .w (fun hb => have hp := bT bNE hb; ev_ix G underlying27 ty3 (lkg G hb) (lkg G hb) (by have _h := hp; omega) (by have _h := hp; omega) (row_adr (i := ((((gt l i).fr) * n) + ((gt l i).to))) 1 G (by have _h := hp; omega) (by have _h := hp; omega))) G (.w (fun hb => have hp := bT bNE hb; ev_ld1 G ty3 (lkg G hb) (At.elem1 (row_el (E := eZ) (l := Y) (i := ((((gt l i).fr) * n) + ((gt l i).to))) 1 G (by have _h := hp; omega) (by have _h := hp; omega)) 0 G)) G (.w (fun hb => ev_cmp G (lkg G hb) G G) G (.w (fun hb => ev_mv G (lkg G hb)) G ?_)))
  refine .cons (Ev.ggstep (b1 := (((gt l i).fr) != ((gt l i).to))) (b := (decide ((gt Y ((((gt l i).fr) * n) + ((gt l i).to))) < 0))) cb_tf (fun hb1 _ => ev_mv G G) G G G G G ?_)
  refine .cons (Ev.ggstep (b1 := (((gt l i).fr) != ((gt l i).to))) (b := (decide ((gt Y ((((gt l i).fr) * n) + ((gt l i).to))) < 0))) cb_tf (fun hb1 _ => ev_fa G fo29_1 G (r := 1) G) G G G G G ?_)
  refine .cons (Ev.ggstep (b1 := (((gt l i).fr) != ((gt l i).to))) (b := (decide ((gt Y ((((gt l i).fr) * n) + ((gt l i).to))) < 0))) cb_tf (fun hb1 hb => ev_ld1 G ty27 (lkg G hb) (At.own1 2 G G)) G G G G G ?_)
  refine .cons (Ev.ggstep (b1 := (((gt l i).fr) != ((gt l i).to))) (b := (decide ((gt Y ((((gt l i).fr) * n) + ((gt l i).to))) < 0))) cb_tf (fun hb1 _ => ev_mv G G) G G G G G ?_)
  refine .cons (Ev.ggstep (b1 := (((gt l i).fr) != ((gt l i).to))) (b := (decide ((gt Y ((((gt l i).fr) * n) + ((gt l i).to))) < 0))) cb_tf (fun hb1 hb => have hp := bT (bA bNE (bN bD)) hb; ev_ix G underlying27 ty3 (lkg G hb) (lkg G hb) (by have _h := hp; omega) (by have _h := hp; omega) (row_adr (i := ((((gt l i).fr) * n) + ((gt l i).to))) 1 G (by have _h := hp; omega) (by have _h := hp; omega))) G G G G G ?_)
  refine .cons (Ev.ggstep (b1 := (((gt l i).fr) != ((gt l i).to))) (b := (decide ((gt Y ((((gt l i).fr) * n) + ((gt l i).to))) < 0))) cb_tf (fun hb1 hb => have hp := bT (bA bNE (bN bD)) hb; ev_ld1 G ty3 (lkg G hb) (At.elem1 (row_el (E := eZ) (l := Y) (i := ((((gt l i).fr) * n) + ((gt l i).to))) 1 G (by have _h := hp; omega) (by have _h := hp; omega)) 0 G)) G G G G G ?_)
  refine .cons (Ev.ggstep (b1 := (((gt l i).fr) != ((gt l i).to))) (b := (decide ((gt Y ((((gt l i).fr) * n) + ((gt l i).to))) < 0))) cb_tf (fun hb1 hb => ev_cmp G (lkg G hb) (lkg G hb) G) G G G G G ?_)
  refine .w (fun hb => ev_or G (lkg G hb) G (lkgn G cb_tf hb)) G (.v (ev_and G G G G) G (.go idQ (.condI G (bA bNE (bO bD bD)) (fun h23 => ?_) (fun h23 => ?_))))
  ·
   refine .region (.f fo29_1 1 G G G G (.l ty27 2 G G G G G (.m G G G ?_)))
   refine .m G G G (.v (ev_ix G underlying27 ty3 G G oO oO (row_adr (i := ((((gt l i).fr) * n) + ((gt l i).to))) 1 G oO oO)) G (.cons (st_setel (E := eZ) (i := ((((gt l i).fr) * n) + ((gt l i).to))) (cs := [.int .i64 ((gt l i).tm)]) (off := 0) ((gt l i).tm) G G G ty3 G G G G G (.t .h) lO lO (Nat.le_of_ble_eq_true G) G (.go idQ (.region ?_)))))
   refine .m G G G (.p ((i + 1)) oO oO G G G G G (.a G G G ?_))
   exact SP.nil (SQ.roundb (X := Int × (List Int) × Value) (x := (i, Y, (.slice A20 Y.length c21))) ⟨(i + 1), (Y.set (((((gt l i).fr) * n) + ((gt l i).to))).toNat ((gt l i).tm)), .slice A20 Y.length c21⟩ (by (try dsimp only); exact ⟨oO, oO, (tab_yes r_2 oO oO (by unfold wgt; rw [if_neg h15]) h23), (by (try rw [List.length_set]); exact r_3)⟩) dO (Sub.get (.c4 G G G G (.c G (.c G .n)))) (kp (.c .h (.c (.t .h) (.c (.t .h) (.c (.t .h) .n))))))
  refine .skipgo idQ (.region (.m G G G (.p ((i + 1)) oO oO G G G G G (.a G G G ?_))))
  exact SP.nil (SQ.roundb (X := Int × (List Int) × Value) (x := (i, Y, (.slice A20 Y.length c21))) ⟨(i + 1), Y, .slice A20 Y.length c21⟩ (by (try dsimp only); exact ⟨oO, oO, (tab_no r_2 oO oO (by unfold wgt; rw [if_neg h15]) h23), (by (try rw [List.length_set]); exact r_3)⟩) dO (Sub.get (.c4 G G G G (.c G (.c G .n)))) (kp (.c (.t .h) (.c (.t .h) (.c (.t .h) (.c (.t .h) .n))))))
 refine .exit idQ ?_
 refine .seq (.region (.d 1 ty29 G G G G (.know (row_len 0 G) (fun hv26 => ?_))))
 obtain ⟨A24, c25, rfl, hv26_1, hv26_2⟩ := hv26
 unfold maxLen at hv26_2
 refine .cons (st_storea (l' := [.int .i64 n, .slice A24 Y.length c25]) G G G ty29 G G G (.t2 .h) G G ?_)
 refine .go idQ (.ret idQ (retv1 results28 (.c 0 G G ty29) (.c (.t .h) .n) ⟨.slice A24 Y.length c25, G, (by rw [r_2, List.take_of_length_le oO]; rfl)⟩))
theorem least_ (n : Int) (A : Option Addr) (c : Nat) (l : List Int) (S : Nat → Prop) (wf : World) (hA : Fr eZ S wf A l) (h1 : 1 ≤ n ∧ n ≤ 32) (hl : (l.length : Int) = n * n) (hb : ∀ i : Int, -1 ≤ gt l i ∧ gt l i ≤ 1000000) :
  TR0 prog 19 [.agg #[.int .i64 n, .slice A l.length c]] [] S wf (fun v_ C_ => ∃ (u : Value) (W : List Int), (MF n W (fw (tf n l) n.toNat)) ∧ v_ = .agg #[.int .i64 n, u] ∧ C_ = [rw_ eZ 3 (u) W]) := by
 have hla := hA.len
 have hsq := sq_le h1
 have hlo : ∀ x y, -1 ≤ tf n l x y := fun x y => (hb _).1
 have hhi : ∀ x y, tf n l x y ≤ 1000000 := fun x y => (hb _).2
 refine TR.mk func19 G ntmps19 G G (fun w_ => ?_)
 refine .seq (.region (.cons (st_boxa G G G G G (fun b1 => (.cons (st_alloc G G G G zf29 (fun b2 => (.go idQ (.seq (.region ?_))))))))))
 refine .f fo29_0 0 G G G G (.l ty3 1 G G G G G (.a G G G (.go idQ (.seq (.region ?_)))))
 refine .m G G G (.cons (st_lit eZ (e := 3) (l := []) G G G G kR G G kW (fun b3 => (.f fo29_1 1 G G G G (.l ty27 2 G G G G G ?_)))))
 refine .cons (st_app0 (E := eZ) (m := l) G G G G underlying27 ai3 G G G .h rO (Src.w (Fr.flat hA)) lO G (fun v4 => ?_))
 refine .know (row_len 0 G) (fun hv7 => ?_)
 obtain ⟨A5, c6, rfl, hv7_1, hv7_2⟩ := hv7
 unfold maxLen at hv7_2
 refine .v (ev_any (v := .agg #[.int .i64 n, .slice A5 l.length c6]) G kR (fun _ => by kernel_rfl)) G (.cons (st_alloc G G G G zf29 (fun b8 => (.cons (st_storea (l' := [.int .i64 n, .slice A5 l.length c6]) G G G ty29 G G G .h G G (.go idQ (.seq (.seq (.region ?_)))))))))
 refine .a G G G (.go idQ (.block (.loop (X := Int × (List Int) × Value) (fun ⟨a, X, u_X⟩ => 0 ≤ a ∧ a ≤ n ∧ MF n X (dgf (tf n l) a)) (fun ⟨a, X, u_X⟩ => [(2, .pointer (some ⟨b2, 0, none⟩)), (3, .int .i64 n), (4, .pointer (some ⟨b8, 0, none⟩)), (5, .int .i64 a)]) (fun ⟨a, X, u_X⟩ => [cel b8 [.int .i64 n, u_X] 29, rw_ eZ 3 (u_X) X, cel b2 [.int .i64 0, .slice none 0 0] 29, cel b1 [.int .i64 n, .slice A l.length c] 29]) (fun _ => S) (fun _ => wf) (fun ⟨a, X, u_X⟩ => (n - a).toNat) (fun a_ w_ hs_ hw_ => ⟨⟨0, l, .slice A5 l.length c6⟩, (by (try dsimp only); exact ⟨oO, oO, (dg_0 hl)⟩), hs_.mono (Sub.get (.c4 G G G G .n)), hw_.keep (.d (.d .n))⟩) (fun ⟨a, X, u_X⟩ ⟨q_0, q_1, q_2⟩ => ?_))))
 try dsimp only
 have hxl := q_2.len
 refine .seq (.seq (.region (.m G G G (.m G G G (.e G G G G G ?_)))))
 refine .go idQ (.condI G bD (fun h9 => ?_) (fun h9 => ?_))
 ·
  refine .skipgo idQ (.seq (.block ?_))
  have hix := idx_rng (n := n) (a := a) (b := a) ⟨by omega, by omega⟩ ⟨by omega, by omega⟩
  refine .region (.f fo29_1 1 G G G G (.l ty27 0 G G G G G (.m G G G ?_)))
  refine .m G G G (.v (ev_mul G G G (r := (a * n)) G oO oO) G (.m G G G (.p (((a * n) + a)) oO oO G G G G G ?_)))
  refine .know (row_len 1 G) (fun hv12 => ?_)
  obtain ⟨A10, c11, rfl, hv12_1, hv12_2⟩ := hv12
  unfold maxLen at hv12_2
  refine .v (ev_ix G underlying27 ty3 G G oO oO (row_adr (i := ((a * n) + a)) 1 G oO oO)) G (.cons (st_setel (E := eZ) (i := ((a * n) + a)) (cs := [.int .i64 0]) (off := 0) 0 G G G ty3 G G G G G (.t .h) lO lO (Nat.le_of_ble_eq_true G) G (.go idQ (.region (.m G G G ?_)))))
  refine .p ((a + 1)) oO oO G G G G G (.a G G G ?_)
  exact SP.nil (SQ.roundb (X := Int × (List Int) × Value) (x := (a, X, (.slice A10 X.length c11))) ⟨(a + 1), (X.set (((a * n) + a)).toNat 0), .slice A10 X.length c11⟩ (by (try dsimp only); exact ⟨oO, oO, (dg_next q_2 ⟨by omega, by omega⟩)⟩) dO (Sub.get (.c4 G G G G .n)) (kp (.c (.t .h) (.d (.c .h .n)))))
 refine .exit idQ ?_
 refine .seq (.seq (.region (.a G G G (.go idQ (.block (.loop (X := Int × (List Int) × Value) (fun ⟨k, Y, u_Y⟩ => 0 ≤ k ∧ k ≤ n ∧ MF n Y (fw (tf n l) k.toNat)) (fun ⟨k, Y, u_Y⟩ => [(2, .pointer (some ⟨b2, 0, none⟩)), (3, .int .i64 n), (4, .pointer (some ⟨b8, 0, none⟩)), (5, .int .i64 a), (6, .int .i64 k)]) (fun ⟨k, Y, u_Y⟩ => [cel b8 [.int .i64 n, u_Y] 29, rw_ eZ 3 (u_Y) Y, cel b2 [.int .i64 0, .slice none 0 0] 29, cel b1 [.int .i64 n, .slice A l.length c] 29]) (fun _ => S) (fun _ => wf) (fun ⟨k, Y, u_Y⟩ => (n - k).toNat) (fun a_ w_ hs_ hw_ => ⟨⟨0, X, u_X⟩, (by (try dsimp only); exact ⟨oO, oO, (dg_end q_2 oO)⟩), hs_.mono (Sub.get (.c4 G G G G (.c G .n))), hw_.keep (.d (.d .n))⟩) (fun ⟨k, Y, u_Y⟩ ⟨r_0, r_1, r_2⟩ => ?_)))))))
 try dsimp only
 have hyl := r_2.len
 refine .seq (.seq (.region (.m G G G (.m G G G (.e G G G G G ?_)))))
 refine .go idQ (.condI G bD (fun h13 => ?_) (fun h13 => ?_))
 ·
  refine .skipgo idQ (.seq (.block (.seq (.region (.a G G G (.go idQ (.block (.loop (X := Int × (List Int) × Value) (fun ⟨i, Z, u_Z⟩ => 0 ≤ i ∧ i ≤ n ∧ MF n Z (stg (fw (tf n l) k.toNat) k i 0)) (fun ⟨i, Z, u_Z⟩ => [(2, .pointer (some ⟨b2, 0, none⟩)), (3, .int .i64 n), (4, .pointer (some ⟨b8, 0, none⟩)), (5, .int .i64 a), (6, .int .i64 k), (7, .int .i64 i)]) (fun ⟨i, Z, u_Z⟩ => [cel b8 [.int .i64 n, u_Z] 29, rw_ eZ 3 (u_Z) Z, cel b2 [.int .i64 0, .slice none 0 0] 29, cel b1 [.int .i64 n, .slice A l.length c] 29]) (fun _ => S) (fun _ => wf) (fun ⟨i, Z, u_Z⟩ => (n - i).toNat) (fun a_ w_ hs_ hw_ => ⟨⟨0, Y, u_Y⟩, (by (try dsimp only); exact ⟨oO, oO, (stg_0 r_2)⟩), hs_.mono (Sub.get (.c4 G G G G (.c G (.c G .n)))), hw_.keep (.d (.d .n))⟩) (fun ⟨i, Z, u_Z⟩ ⟨s_0, s_1, s_2⟩ => ?_)))))))))
  try dsimp only
  have hzl := s_2.len
  refine .seq (.seq (.region (.m G G G (.m G G G (.e G G G G G ?_)))))
  refine .go idQ (.condI G bD (fun h14 => ?_) (fun h14 => ?_))
  ·
   refine .skipgo idQ (.seq (.block (.seq (.region (.a G G G (.go idQ (.block (.loop (X := Int × (List Int) × Value) (fun ⟨j, V, u_V⟩ => 0 ≤ j ∧ j ≤ n ∧ MF n V (stg (fw (tf n l) k.toNat) k i j)) (fun ⟨j, V, u_V⟩ => [(2, .pointer (some ⟨b2, 0, none⟩)), (3, .int .i64 n), (4, .pointer (some ⟨b8, 0, none⟩)), (5, .int .i64 a), (6, .int .i64 k), (7, .int .i64 i), (8, .int .i64 j)]) (fun ⟨j, V, u_V⟩ => [cel b8 [.int .i64 n, u_V] 29, rw_ eZ 3 (u_V) V, cel b2 [.int .i64 0, .slice none 0 0] 29, cel b1 [.int .i64 n, .slice A l.length c] 29]) (fun _ => S) (fun _ => wf) (fun ⟨j, V, u_V⟩ => (n - j).toNat) (fun a_ w_ hs_ hw_ => ⟨⟨0, Z, u_Z⟩, (by (try dsimp only); exact ⟨oO, oO, (by assumption)⟩), hs_.mono (Sub.get (.c4 G G G G (.c G (.c G (.c G .n))))), hw_.keep (.d (.d .n))⟩) (fun ⟨j, V, u_V⟩ ⟨u_0, u_1, u_2⟩ => ?_)))))))))
   try dsimp only
   have hvl := u_2.len
   refine .seq (.seq ?_)
   have hfb := fw_bd (k := k) hlo hhi h1.2 oO oO
   refine .region (.m G G G (.m G G G (.e G G G G G ?_)))
   refine .go idQ (.condI G bD (fun h15 => ?_) (fun h15 => ?_))
   ·
    refine .skipgo idQ (.seq (.block (.seq ?_)))
    have hi1 := idx_rng (n := n) (a := i) (b := k) ⟨by omega, by omega⟩ ⟨by omega, by omega⟩
    have hi2 := idx_rng (n := n) (a := k) (b := j) ⟨by omega, by omega⟩ ⟨by omega, by omega⟩
    have hi3 := idx_rng (n := n) (a := i) (b := j) ⟨by omega, by omega⟩ ⟨by omega, by omega⟩
    have hga := stg_a u_2 hfb ⟨by omega, by omega⟩ ⟨by omega, by omega⟩
    have hgb := stg_b u_2 hfb ⟨by omega, by omega⟩ ⟨by omega, by omega⟩
    have hba := hfb.hi i k
    have hbb := hfb.hi k j
    have hbc := hfb.lo i k
    have hbd := hfb.lo k j
    refine .know (row_len 1 G) (fun hv18 => ?_)
    obtain ⟨A16, c17, rfl, hv18_1, hv18_2⟩ := hv18
    unfold maxLen at hv18_2
    refine SC.draw mo [] [] .n (fun _ _ _ => sc0) (fun wf_19 hl_19 hx_19 hR_19 => ?_)
    refine SR.z 0 G G (ev_fa G fo29_1 G (r := 1) G) ?_
    refine SR.z 1 G G (ev_ld1 G ty27 G (At.d (At.lent hR_19 0 G G))) ?_
    refine SR.m 2 G G G G ?_
    refine SR.m 3 G G G G ?_
    refine SR.z 4 G G (ev_mul G G G (r := (i * n)) G oO oO) ?_
    refine SR.m 5 G G G G ?_
    refine SR.z 6 G G (ev_add G G G (r := ((i * n) + k)) G oO oO) ?_
    refine SR.z 7 G G (ev_ix G underlying27 ty3 G G oO oO (fun _ _ => Fr.adr (i := ((i * n) + k)) (Fr.lent (S := S) hR_19 1 G lO) oO oO)) ?_
    refine SR.z 8 G G (ev_ld1 G ty3 G (At.elem1 (At.d (Fr.el (i := ((i * n) + k)) (Fr.lent (S := S) hR_19 1 G lO) oO oO)) 0 G)) ?_
    refine SR.z 9 G G (ev_fa G fo29_1 G (r := 1) G) ?_
    refine SR.z 10 G G (ev_ld1 G ty27 G (At.d (At.lent hR_19 0 G G))) ?_
    refine SR.m 11 G G G G ?_
    refine SR.m 12 G G G G ?_
    refine SR.z 13 G G (ev_mul G G G (r := (k * n)) G oO oO) ?_
    refine SR.m 14 G G G G ?_
    refine SR.z 15 G G (ev_add G G G (r := ((k * n) + j)) G oO oO) ?_
    refine SR.z 16 G G (ev_ix G underlying27 ty3 G G oO oO (fun _ _ => Fr.adr (i := ((k * n) + j)) (Fr.lent (S := S) hR_19 1 G lO) oO oO)) ?_
    refine SR.z 17 G G (ev_ld1 G ty3 G (At.elem1 (At.d (Fr.el (i := ((k * n) + j)) (Fr.lent (S := S) hR_19 1 G lO) oO oO)) 0 G)) ?_
    refine SR.z 18 G G (ev_fa G fo29_1 G (r := 1) G) ?_
    refine SR.z 19 G G (ev_ld1 G ty27 G (At.d (At.lent hR_19 0 G G))) ?_
    refine SR.m 20 G G G G ?_
    refine SR.m 21 G G G G ?_
    refine SR.z 22 G G (ev_mul G G G (r := (i * n)) G oO oO) ?_
    refine SR.m 23 G G G G ?_
    refine SR.z 24 G G (ev_add G G G (r := ((i * n) + j)) G oO oO) ?_
    refine SR.z 25 G G (ev_ix G underlying27 ty3 G G oO oO (fun _ _ => Fr.adr (i := ((i * n) + j)) (Fr.lent (S := S) hR_19 1 G lO) oO oO)) ?_
    refine SR.z 26 G G (ev_ld1 G ty3 G (At.elem1 (At.d (Fr.el (i := ((i * n) + j)) (Fr.lent (S := S) hR_19 1 G lO) oO oO)) 0 G)) ?_
    refine SR.z 27 G G (ev_as G G) ?_
    refine SR.z 28 G G (ev_as G G) ?_
    refine SR.z 29 G G (ev_as G G) ?_
    refine SR.fin kR hl_19 hx_19 hR_19 .n ?_
    refine SQ.go idQ ?_
    refine .seq (.region (.m G G G (.e G G G G G (.m G G G ?_))))
    refine .w (fun _ => ev_mv G G) G (.w (fun hb => ev_cmp G (lkg G hb) G G) G (.v (ev_and G G G G) G (.m G G G ?_)))
    refine .w (fun _ => ev_mv G G) G (.w (fun hb => ev_cmp G (lkg G hb) G G) G (.w (fun hb => ev_mv G (lkg G hb)) G (.cons (Ev.ggstep (b1 := ((decide ((gt V ((i * n) + k)) ≥ 0)) && (decide ((gt V ((k * n) + j)) ≥ 0)))) (b := (decide ((gt V ((i * n) + j)) < 0))) cb_tf (fun hb1 _ => ev_mv G G) G G G G G ?_))))
    refine .cons (Ev.ggstep (b1 := ((decide ((gt V ((i * n) + k)) ≥ 0)) && (decide ((gt V ((k * n) + j)) ≥ 0)))) (b := (decide ((gt V ((i * n) + j)) < 0))) cb_tf (fun hb1 _ => ev_mv G G) G G G G G ?_)
    refine .cons (Ev.ggstep (b1 := ((decide ((gt V ((i * n) + k)) ≥ 0)) && (decide ((gt V ((k * n) + j)) ≥ 0)))) (b := (decide ((gt V ((i * n) + j)) < 0))) cb_tf (fun hb1 hb => have hp := bT (bA (bA bD bD) (bN bD)) hb; ev_add G (lkg G hb) (lkg G hb) (r := ((gt V ((i * n) + k)) + (gt V ((k * n) + j)))) G (by have _h := hp; omega) (by have _h := hp; omega)) G G G G G ?_)
    refine .cons (Ev.ggstep (b1 := ((decide ((gt V ((i * n) + k)) ≥ 0)) && (decide ((gt V ((k * n) + j)) ≥ 0)))) (b := (decide ((gt V ((i * n) + j)) < 0))) cb_tf (fun hb1 _ => ev_mv G G) G G G G G ?_)
    refine .cons (Ev.ggstep (b1 := ((decide ((gt V ((i * n) + k)) ≥ 0)) && (decide ((gt V ((k * n) + j)) ≥ 0)))) (b := (decide ((gt V ((i * n) + j)) < 0))) cb_tf (fun hb1 hb => ev_cmp G (lkg G hb) (lkg G hb) G) G G G G G ?_)
    refine .w (fun hb => ev_or G (lkg G hb) G (lkgn G cb_tf hb)) G (.v (ev_and G G G G) G (.go idQ (.condI G (bA (bA bD bD) (bO bD bD)) (fun h20 => ?_) (fun h20 => ?_))))
    ·
     refine .region (.f fo29_1 1 G G G G (.l ty27 0 G G G G G (.m G G G ?_)))
     refine .m G G G (.v (ev_mul G G G (r := (i * n)) G oO oO) G (.m G G G (.p (((i * n) + j)) oO oO G G G G G ?_)))
     refine .m G G G (.m G G G (.v (ev_add G G G (r := ((gt V ((i * n) + k)) + (gt V ((k * n) + j)))) G oO oO) G (.v (ev_ix G underlying27 ty3 G G oO oO (row_adr (i := ((i * n) + j)) 1 G oO oO)) G ?_)))
     refine .cons (st_setel (E := eZ) (i := ((i * n) + j)) (cs := [.int .i64 ((gt V ((i * n) + k)) + (gt V ((k * n) + j)))]) (off := 0) ((gt V ((i * n) + k)) + (gt V ((k * n) + j))) G G G ty3 G G G G G (.t .h) lO lO (Nat.le_of_ble_eq_true G) G ?_)
     refine .go idQ (.region (.m G G G (.p ((j + 1)) oO oO G G G G G (.a G G G ?_))))
     exact SP.nil (SQ.roundb (X := Int × (List Int) × Value) (x := (j, V, (.slice A16 V.length c17))) ⟨(j + 1), (V.set (((i * n) + j)).toNat ((gt V ((i * n) + k)) + (gt V ((k * n) + j)))), .slice A16 V.length c17⟩ (by (try dsimp only); exact ⟨oO, oO, (stg_yes u_2 hfb ⟨by omega, by omega⟩ ⟨by omega, by omega⟩ ⟨by omega, by omega⟩ h20)⟩) dO (Sub.get (.c4 G G G G (.c G (.c G (.c G .n))))) (kp (.c (.t .h) (.d (.c .h .n)))))
    refine .skipgo idQ (.region (.m G G G (.p ((j + 1)) oO oO G G G G G (.a G G G ?_))))
    exact SP.nil (SQ.roundb (X := Int × (List Int) × Value) (x := (j, V, (.slice A16 V.length c17))) ⟨(j + 1), V, .slice A16 V.length c17⟩ (by (try dsimp only); exact ⟨oO, oO, (stg_no u_2 hfb ⟨by omega, by omega⟩ ⟨by omega, by omega⟩ ⟨by omega, by omega⟩ h20)⟩) dO (Sub.get (.c4 G G G G (.c G (.c G (.c G .n))))) (kp (.d (.d .n))))
   refine .exit idQ ?_
   refine .region (.m G G G (.p ((i + 1)) oO oO G G G G G (.a G G G ?_)))
   exact SP.nil (SQ.roundb (X := Int × (List Int) × Value) (x := (i, Z, u_Z)) ⟨(i + 1), V, u_V⟩ (by (try dsimp only); exact ⟨oO, oO, (stg_row u_2 oO)⟩) dO (Sub.get (.c4 G G G G (.c G (.c G .n)))) (kp (.d (.d .n))))
  refine .exit idQ ?_
  refine .region (.m G G G (.p ((k + 1)) oO oO G G G G G (.a G G G ?_)))
  exact SP.nil (SQ.roundb (X := Int × (List Int) × Value) (x := (k, Y, u_Y)) ⟨(k + 1), Z, u_Z⟩ (by (try dsimp only); exact ⟨oO, oO, (fw_next s_2 oO oO)⟩) dO (Sub.get (.c4 G G G G (.c G .n))) (kp (.d (.d .n))))
 refine .exit idQ ?_
 refine .seq (.region (.d 0 ty29 G G G G (.know (row_len 1 G) (fun hv23 => ?_))))
 obtain ⟨A21, c22, rfl, hv23_1, hv23_2⟩ := hv23
 unfold maxLen at hv23_2
 refine .cons (st_storea (l' := [.int .i64 n, .slice A21 Y.length c22]) G G G ty29 G G G (.t2 .h) G G ?_)
 refine .go idQ (.ret idQ (retv1 results19 (.c 0 G G ty29) (.c (.t2 .h) .n) ⟨.slice A21 Y.length c22, Y, (by rw [show n = k from by omega]; rw [show n = k from by omega] at r_2; exact r_2), G, G⟩))
end Go.Proofs.Ytpjblnmophcdmaa.Sx
set_option maxRecDepth 20000
set_option maxHeartbeats 8000000
namespace Go.Proofs.Ytpjblnmophcdmaa.Sx.FC
open Go Go.SX Go.Proofs Go.Proofs.Try FA FB
theorem ai72 : (prog.info? 72).map (fun i => (i.zero, i.size, i.bytes)) = some (some (.agg #[.int .i64 0, .int .i64 0]), 2, 16) := by kernel_rfl
theorem fo106_0 : fo prog 106 0 = some 0 := by kernel_rfl
theorem fo106_1 : fo prog 106 1 = some 1 := by kernel_rfl
theorem ty69 : ty prog 69 = some (false, 1) := by kernel_rfl
theorem hbd29 : hasBody prog 29 = true := by kernel_rfl
theorem ty72 : ty prog 72 = some (true, 2) := by kernel_rfl
theorem hbd56 : hasBody prog 56 = true := by kernel_rfl
end Go.Proofs.Ytpjblnmophcdmaa.Sx.FC
namespace Go.Proofs.Ytpjblnmophcdmaa.Sx
open Go Go.SX Go.Proofs Go.Proofs.Try FA FB FC
theorem cloneE (A : Option Addr) (n : Nat) (c : Nat) (l : List EG) (S : Nat → Prop) (wf : World) (hA : Fr eEG S wf A l) (hn : l.length = n) (hl : l.length ≤ 1000000) :
  TR0 prog 56 [.slice A n c] [] S wf (fun v_ C_ => ∃ (v : Value), v_ = v ∧ C_ = [rw_ eEG 72 (v) l]) := by
 refine TR.mk func56 G ntmps56 G G (fun w_ => ?_)
 refine .seq (.region (.a G G G (.go idQ (.seq (.seq (.region (.m G G G ?_)))))))
 refine .v (ev_nils G underlying69 G G (by rfl)) G (.go idQ (.condI G bV (fun h1 => ?_) (fun h1 => ?_)))
 ·
  refine .seq (.region (.a G G G (.go idQ ?_)))
  refine SC.nilrow eEG 72 ?_
  exact .ret idQ (ret1 results56 G (.c .h .n) ⟨.slice none 0 0, G, (by rw [clone_nil hA (by assumption)])⟩)
 refine .skipgo idQ (.seq (.region (.cons (st_lit eEG (e := 72) (l := []) G G G G kR G G kW (fun b2 => (.m G G G (.cons (st_app0 (E := eEG) (m := l) G G G G underlying69 ai72 G G G .h rO (Src.w (Fr.flat hA)) lO G (fun v3 => ?_)))))))))
 refine .a G G G (.go idQ (.ret idQ (ret1 results56 G (.c .h .n) ⟨v3, G, G⟩)))
theorem cloneA (A : Option Addr) (n : Nat) (c : Nat) (l : List AR) (S : Nat → Prop) (wf : World) (hA : Fr eAR S wf A l) (hn : l.length = n) (hl : l.length ≤ 1000000) :
  TR0 prog 51 [.slice A n c] [] S wf (fun v_ C_ => ∃ (v : Value), v_ = v ∧ C_ = [rw_ eAR 54 (v) l]) := by
 refine TR.mk func51 G ntmps51 G G (fun w_ => ?_)
 refine .seq (.region (.a G G G (.go idQ (.seq (.seq (.region (.m G G G ?_)))))))
 refine .v (ev_nils G underlying22 G G (by rfl)) G (.go idQ (.condI G bV (fun h1 => ?_) (fun h1 => ?_)))
 ·
  refine .seq (.region (.a G G G (.go idQ ?_)))
  refine SC.nilrow eAR 54 ?_
  exact .ret idQ (ret1 results51 G (.c .h .n) ⟨.slice none 0 0, G, (by rw [clone_nil hA (by assumption)])⟩)
 refine .skipgo idQ (.seq (.region (.cons (st_lit eAR (e := 54) (l := []) G G G G kR G G kW (fun b2 => (.m G G G (.cons (st_app0 (E := eAR) (m := l) G G G G underlying22 ai54 G G G .h rO (Src.w (Fr.flat hA)) lO G (fun v3 => ?_)))))))))
 refine .a G G G (.go idQ (.ret idQ (ret1 results51 G (.c .h .n) ⟨v3, G, G⟩)))
theorem gpl_ (b : Nat) (fA : Option Addr) (fc : Nat) (fi : List Int) (eA : Option Addr) (ec : Nat) (ed : List EG) (S : Nat → Prop) (wf : World) (hF : Fr eZ S wf fA fi) (hE : Fr eEG S wf eA ed) :
  TR0 prog 29 [.pointer (some ⟨b, 0, none⟩)] [cel b [.slice fA fi.length fc, .slice eA ed.length ec] 106] S wf (fun v_ C_ => v_ = .int .i64 ((fi.length : Int) - 1) ∧ C_ = [cel b [.slice fA fi.length fc, .slice eA ed.length ec] 106]) := by
 have hfl := hF.len
 have hel := hE.len
 refine TR.mk func29 G ntmps29 G G (fun w_ => ?_)
 refine .seq (.region (.a G G G (.go idQ (.seq (.seq (.region (.m G G G ?_)))))))
 refine .v (ev_bin G G G (r := .bool false) (fun _ => by kernel_rfl)) G (.go idQ (.cond_f G (.skipgo idQ (.seq (.region ?_)))))
 refine .m G G G (.v (ev_nil G G) G (.f fo106_0 0 G G G G (.l ty27 0 G G G G G ?_)))
 refine .g underlying27 G G G (.v (ev_sub G G G (r := ((fi.length : Int) - 1)) G oO oO) G (.a G G G (.go idQ ?_)))
 exact .ret idQ (ret1 results29 G (.c .h .n) ⟨G, G⟩)
theorem glen_ (b : Nat) (fA : Option Addr) (fc : Nat) (fi : List Int) (eA : Option Addr) (ec : Nat) (ed : List EG) (S : Nat → Prop) (wf : World) (hF : Fr eZ S wf fA fi) (hE : Fr eEG S wf eA ed) :
  TR0 prog 48 [.pointer (some ⟨b, 0, none⟩)] [cel b [.slice fA fi.length fc, .slice eA ed.length ec] 106] S wf (fun v_ C_ => v_ = .int .i64 (ed.length : Int) ∧ C_ = [cel b [.slice fA fi.length fc, .slice eA ed.length ec] 106]) := by
 have hfl := hF.len
 have hel := hE.len
 refine TR.mk func48 G ntmps48 G G (fun w_ => ?_)
 refine .seq (.region (.a G G G (.go idQ (.seq (.seq (.region (.m G G G ?_)))))))
 refine .v (ev_bin G G G (r := .bool false) (fun _ => by kernel_rfl)) G (.go idQ (.cond_f G (.skipgo idQ (.seq (.region ?_)))))
 refine .m G G G (.v (ev_nil G G) G (.f fo106_1 1 G G G G (.l ty69 0 G G G G G ?_)))
 refine .g underlying69 G G G (.a G G G (.go idQ (.ret idQ (ret1 results48 G (.c .h .n) ⟨G, G⟩))))
theorem gout_ (b : Nat) (fA : Option Addr) (fc : Nat) (fi : List Int) (eA : Option Addr) (ec : Nat) (ed : List EG) (p : Int) (S : Nat → Prop) (wf : World) (hF : Fr eZ S wf fA fi) (hE : Fr eEG S wf eA ed) (hp : 0 ≤ p ∧ p + 1 < (fi.length : Int)) (hr : 0 ≤ gt fi p ∧ gt fi p ≤ gt fi (p + 1) ∧ gt fi (p + 1) ≤ (ed.length : Int)) (hm : ed.length ≤ 1000 ∧ ed.length ≤ ec) :
  TR0 prog 30 [.pointer (some ⟨b, 0, none⟩), .int .i64 p] [cel b [.slice fA fi.length fc, .slice eA ed.length ec] 106] S wf (fun v_ C_ => ∃ (u : Value), v_ = u ∧ C_ = [cel b [.slice fA fi.length fc, .slice eA ed.length ec] 106, rw_ eEG 72 (u) (outL fi ed p)]) := by
 have hfl := hF.len
 have hel := hE.len
 refine TR.mk func30 G ntmps30 G G (fun w_ => ?_)
 refine .seq (.region (.a G G G (.go idQ (.seq (.seq (.region (.m G G G ?_)))))))
 refine .e G G G G G (.m G G G (.w (fun _ => ev_mv G G) G (.w (fun _ => ev_mv G G) G ?_)))
 refine .cons (st_gcallk G G G G G G hbd29 (fun hb => (lkA1 (lkg G hb) lkA0)) (.c .h .n) (fun hb => have hp := bF bD hb; gpl_ b fA fc fi eA ec ed _ _ hF hE) ?_)
 refine .w (fun hb => ev_cmp G (lkg G hb) (lkg G hb) G) G (.r G G G G G (.go idQ (.condI G (bO bD bD) (fun h1 => ?_) (fun h1 => ?_))))
 ·
  exfalso; omega
 refine .skipgo idQ (.seq ?_)
 refine SC.draw mo [] [] .n (fun _ _ _ => sc0) (fun wf_2 hl_2 hx_2 hR_2 => ?_)
 refine SR.m 0 G G G G ?_
 refine SR.z 1 G G (ev_nil G G) ?_
 refine SR.z 2 G G (ev_fa G fo106_1 G (r := 1) G) ?_
 refine SR.z 3 G G (ev_ld1 G ty69 G (At.d (At.lent hR_2 0 G G))) ?_
 refine SR.m 4 G G G G ?_
 refine SR.z 5 G G (ev_nil G G) ?_
 refine SR.z 6 G G (ev_fa G fo106_0 G (r := 0) G) ?_
 refine SR.z 7 G G (ev_ld1 G ty27 G (At.d (At.lent hR_2 0 G G))) ?_
 refine SR.m 8 G G G G ?_
 refine SR.z 9 G G (ev_ix G underlying27 ty3 G G oO oO (fun _ _ => Fr.adr (i := p) (Fr.ext hF hx_2) oO oO)) ?_
 refine SR.z 10 G G (ev_ld1 G ty3 G (At.elem1 (At.d (Fr.el (i := p) (Fr.ext hF hx_2) oO oO)) 0 G)) ?_
 refine SR.m 11 G G G G ?_
 refine SR.z 12 G G (ev_nil G G) ?_
 refine SR.z 13 G G (ev_fa G fo106_0 G (r := 0) G) ?_
 refine SR.z 14 G G (ev_ld1 G ty27 G (At.d (At.lent hR_2 0 G G))) ?_
 refine SR.m 15 G G G G ?_
 refine SR.z 16 G G (ev_add G G G (r := (p + 1)) G oO oO) ?_
 refine SR.z 17 G G (ev_ix G underlying27 ty3 G G oO oO (fun _ _ => Fr.adr (i := (p + 1)) (Fr.ext hF hx_2) oO oO)) ?_
 refine SR.z 18 G G (ev_ld1 G ty3 G (At.elem1 (At.d (Fr.el (i := (p + 1)) (Fr.ext hF hx_2) oO oO)) 0 G)) ?_
 refine SR.z 19 G G (ev_slc G underlying69 ty72 G (.s G oO) (.s G oO) oO oO) ?_
 refine SR.o 20 G (st_call0 G G G G hbd56 G .n (cloneE (cutA eA ec ((gt fi p)).toNat 2) ((((gt fi (p + 1))).toNat) - ((gt fi p)).toNat) (ec - ((gt fi p)).toNat) ((ed.take ((gt fi (p + 1))).toNat).drop ((gt fi p)).toNat) _ _ (Fr.view (Fr.ext hE hx_2) ((gt fi p)).toNat ((gt fi (p + 1))).toNat 2 G oO) lO lO) (fun v_q4 C_q4 q4 => ⟨tt0, ?_⟩))
 obtain ⟨v3, rfl, rfl⟩ := q4
 show SR _ _ _ _ _ _ _ _ _ ⟨_, _ :: _, _, _⟩
 refine SR.z 21 G G (ev_as G G) ?_
 refine SR.fin kR hl_2 hx_2 hR_2 (.c .n) ?_
 refine SQ.go idQ ?_
 exact .ret idQ (ret1 results30 G (.c (.t .h) (.c .h .n)) ⟨v_q4, G, G⟩)
end Go.Proofs.Ytpjblnmophcdmaa.Sx
set_option maxRecDepth 20000
set_option maxHeartbeats 8000000
namespace Go.Proofs.Ytpjblnmophcdmaa.Sx.FD
open Go Go.SX Go.Proofs Go.Proofs.Try FA FB FC
theorem hbd55 : hasBody prog 55 = true := by kernel_rfl
theorem ty56 : ty prog 56 = some (false, 1) := by kernel_rfl
theorem hbd24 : hasBody prog 24 = true := by kernel_rfl
theorem hbd54 : hasBody prog 54 = true := by kernel_rfl
theorem hbd25 : hasBody prog 25 = true := by kernel_rfl
end Go.Proofs.Ytpjblnmophcdmaa.Sx.FD
namespace Go.Proofs.Ytpjblnmophcdmaa.Sx
open Go Go.SX Go.Proofs Go.Proofs.Try FA FB FC FD
theorem new1_Time (a : AR) (b : AR) (m : Nat) (S : Nat → Prop) (wf : World) :
  TR0 prog 53 [.agg #[.int .i64 a.fr, .int .i64 a.to, .int .i64 a.tm, .int .i64 a.ds], .agg #[.int .i64 b.fr, .int .i64 b.to, .int .i64 b.tm, .int .i64 b.ds], .pointer (some ⟨m, 0, none⟩)] [cel m [.func (.func 24) #[] #[]] 56] S wf (fun v_ C_ => ∃ (r : Int), (r = orF [cmpI a.fr b.fr, cmpI a.to b.to, cmpI (wgt false a) (wgt false b)]) ∧ v_ = .int .i64 r ∧ C_ = [cel m [.func (.func 24) #[] #[]] 56]) := by
 refine TR.mk func53 G ntmps53 G G (fun w_ => ?_)
 refine .seq (.region (.cons (st_boxa G G G G G (fun b1 => (.cons (st_boxa G G G G G (fun b2 => (.a G G G ?_))))))))
 refine .go idQ (.seq ?_)
 refine SC.draw mo [] [] .n (fun _ _ _ => sc0) (fun wf_3 hl_3 hx_3 hR_3 => ?_)
 refine SR.z 0 G G (ev_fa G fo54_0 G (r := 0) G) ?_
 refine SR.z 1 G G (ev_ld1 G ty3 G (At.d (At.lent hR_3 1 G G))) ?_
 refine SR.z 2 G G (ev_fa G fo54_0 G (r := 0) G) ?_
 refine SR.z 3 G G (ev_ld1 G ty3 G (At.d (At.lent hR_3 0 G G))) ?_
 refine SR.z 5 G G (ev_fa G fo54_1 G (r := 1) G) ?_
 refine SR.z 6 G G (ev_ld1 G ty3 G (At.d (At.lent hR_3 1 G G))) ?_
 refine SR.z 7 G G (ev_fa G fo54_1 G (r := 1) G) ?_
 refine SR.z 8 G G (ev_ld1 G ty3 G (At.d (At.lent hR_3 0 G G))) ?_
 refine SR.z 10 G G (ev_ld1 G ty56 G (At.d (At.lent hR_3 2 G G))) ?_
 refine SR.z 11 G G (ev_lda (cs := [.int .i64 a.fr, .int .i64 a.to, .int .i64 a.tm, .int .i64 a.ds]) G G (At.d (At.lent hR_3 1 G G)) ty54) ?_
 refine SR.z 13 G G (ev_ld1 G ty56 G (At.d (At.lent hR_3 2 G G))) ?_
 refine SR.z 14 G G (ev_lda (cs := [.int .i64 b.fr, .int .i64 b.to, .int .i64 b.tm, .int .i64 b.ds]) G G (At.d (At.lent hR_3 0 G G)) ty54) ?_
 refine SR.o 4 G (st_callk G G G G hbd55 G .n (cmp_ a.fr b.fr _ _) ⟨tt0, ?_⟩)
 refine SR.o 9 G (st_callk G G G G hbd55 G .n (cmp_ a.to b.to _ _) ⟨tt0, ?_⟩)
 refine SR.o 12 G (.viafun G G (st_callk G G G G hbd24 G .n (time_ a _ _) ⟨tt0, ?_⟩))
 refine SR.o 15 G (.viafun G G (st_callk G G G G hbd24 G .n (time_ b _ _) ⟨tt0, ?_⟩))
 refine SR.o 16 G (st_callk G G G G hbd55 G .n (cmp_ a.tm b.tm _ _) ⟨tt0, ?_⟩)
 refine SR.o 17 G (st_lit eZ (e := 3) (l := [(cmpI a.fr b.fr), (cmpI a.to b.to), (cmpI a.tm b.tm)]) G G G G kR G G kW (fun b4 => ⟨tt0, ?_⟩))
 refine SR.o 18 G (st_lend0 G G G G hbd54 G .n (.c .h .n) (fun w_ hw => or_ (some ⟨b4, 0, none⟩) 3 [(cmpI a.fr b.fr), (cmpI a.to b.to), (cmpI a.tm b.tm)] _ _ (Fr.lend hw 0 G lO)) (fun v_q6 C_q6 q6 => ⟨tt0, ?_⟩))
 obtain ⟨r5, p7, rfl, rfl⟩ := q6
 show SR _ _ _ _ _ _ _ _ _ ⟨_, _ :: _, _, _⟩
 refine SR.z 19 G G (ev_as G G) ?_
 refine SR.fin kR hl_3 hx_3 hR_3 (.c .n) ?_
 refine SQ.go idQ ?_
 exact .ret idQ (ret1 results53 G (.c (.t2 (.t .h)) .n) ⟨r5, p7, G, G⟩)
theorem new1_Dist (a : AR) (b : AR) (m : Nat) (S : Nat → Prop) (wf : World) :
  TR0 prog 53 [.agg #[.int .i64 a.fr, .int .i64 a.to, .int .i64 a.tm, .int .i64 a.ds], .agg #[.int .i64 b.fr, .int .i64 b.to, .int .i64 b.tm, .int .i64 b.ds], .pointer (some ⟨m, 0, none⟩)] [cel m [.func (.func 25) #[] #[]] 56] S wf (fun v_ C_ => ∃ (r : Int), (r = orF [cmpI a.fr b.fr, cmpI a.to b.to, cmpI (wgt true a) (wgt true b)]) ∧ v_ = .int .i64 r ∧ C_ = [cel m [.func (.func 25) #[] #[]] 56]) := by
 refine TR.mk func53 G ntmps53 G G (fun w_ => ?_)
 refine .seq (.region (.cons (st_boxa G G G G G (fun b1 => (.cons (st_boxa G G G G G (fun b2 => (.a G G G ?_))))))))
 refine .go idQ (.seq ?_)
 refine SC.draw mo [] [] .n (fun _ _ _ => sc0) (fun wf_3 hl_3 hx_3 hR_3 => ?_)
 refine SR.z 0 G G (ev_fa G fo54_0 G (r := 0) G) ?_
 refine SR.z 1 G G (ev_ld1 G ty3 G (At.d (At.lent hR_3 1 G G))) ?_
 refine SR.z 2 G G (ev_fa G fo54_0 G (r := 0) G) ?_
 refine SR.z 3 G G (ev_ld1 G ty3 G (At.d (At.lent hR_3 0 G G))) ?_
 refine SR.z 5 G G (ev_fa G fo54_1 G (r := 1) G) ?_
 refine SR.z 6 G G (ev_ld1 G ty3 G (At.d (At.lent hR_3 1 G G))) ?_
 refine SR.z 7 G G (ev_fa G fo54_1 G (r := 1) G) ?_
 refine SR.z 8 G G (ev_ld1 G ty3 G (At.d (At.lent hR_3 0 G G))) ?_
 refine SR.z 10 G G (ev_ld1 G ty56 G (At.d (At.lent hR_3 2 G G))) ?_
 refine SR.z 11 G G (ev_lda (cs := [.int .i64 a.fr, .int .i64 a.to, .int .i64 a.tm, .int .i64 a.ds]) G G (At.d (At.lent hR_3 1 G G)) ty54) ?_
 refine SR.z 13 G G (ev_ld1 G ty56 G (At.d (At.lent hR_3 2 G G))) ?_
 refine SR.z 14 G G (ev_lda (cs := [.int .i64 b.fr, .int .i64 b.to, .int .i64 b.tm, .int .i64 b.ds]) G G (At.d (At.lent hR_3 0 G G)) ty54) ?_
 refine SR.o 4 G (st_callk G G G G hbd55 G .n (cmp_ a.fr b.fr _ _) ⟨tt0, ?_⟩)
 refine SR.o 9 G (st_callk G G G G hbd55 G .n (cmp_ a.to b.to _ _) ⟨tt0, ?_⟩)
 refine SR.o 12 G (.viafun G G (st_callk G G G G hbd25 G .n (dist_ a _ _) ⟨tt0, ?_⟩))
 refine SR.o 15 G (.viafun G G (st_callk G G G G hbd25 G .n (dist_ b _ _) ⟨tt0, ?_⟩))
 refine SR.o 16 G (st_callk G G G G hbd55 G .n (cmp_ a.ds b.ds _ _) ⟨tt0, ?_⟩)
 refine SR.o 17 G (st_lit eZ (e := 3) (l := [(cmpI a.fr b.fr), (cmpI a.to b.to), (cmpI a.ds b.ds)]) G G G G kR G G kW (fun b4 => ⟨tt0, ?_⟩))
 refine SR.o 18 G (st_lend0 G G G G hbd54 G .n (.c .h .n) (fun w_ hw => or_ (some ⟨b4, 0, none⟩) 3 [(cmpI a.fr b.fr), (cmpI a.to b.to), (cmpI a.ds b.ds)] _ _ (Fr.lend hw 0 G lO)) (fun v_q6 C_q6 q6 => ⟨tt0, ?_⟩))
 obtain ⟨r5, p7, rfl, rfl⟩ := q6
 show SR _ _ _ _ _ _ _ _ _ ⟨_, _ :: _, _, _⟩
 refine SR.z 19 G G (ev_as G G) ?_
 refine SR.fin kR hl_3 hx_3 hR_3 (.c .n) ?_
 refine SQ.go idQ ?_
 exact .ret idQ (ret1 results53 G (.c (.t2 (.t .h)) .n) ⟨r5, p7, G, G⟩)
end Go.Proofs.Ytpjblnmophcdmaa.Sx
set_option maxRecDepth 20000
set_option maxHeartbeats 8000000
namespace Go.Proofs.Ytpjblnmophcdmaa.Sx.FE
open Go Go.SX Go.Proofs Go.Proofs.Try FA FB FC FD
theorem fo111_0 : fo prog 111 0 = some 0 := by kernel_rfl
theorem ty109 : ty prog 109 = some (false, 1) := by kernel_rfl
theorem ty115 : ty prog 115 = some (true, 2) := by kernel_rfl
theorem zf115 : (prog.info? 115).bind (fun i => i.zero.map Value.cells) = some (List.toArray [.int .i64 0, .int .i64 0]) := by kernel_rfl
theorem fo115_1 : fo prog 115 1 = some 1 := by kernel_rfl
theorem fo115_0 : fo prog 115 0 = some 0 := by kernel_rfl
theorem fo111_1 : fo prog 111 1 = some 1 := by kernel_rfl
theorem ty68 : ty prog 68 = some (false, 1) := by kernel_rfl
theorem zv3 : (prog.info? 3).bind (fun i => i.zero) = some (.int .i64 0) := by kernel_rfl
theorem ai115 : (prog.info? 115).map (fun i => (i.zero, i.size, i.bytes)) = some (some (.agg #[.int .i64 0, .int .i64 0]), 2, 16) := by kernel_rfl
end Go.Proofs.Ytpjblnmophcdmaa.Sx.FE
namespace Go.Proofs.Ytpjblnmophcdmaa.Sx
open Go Go.SX Go.Proofs Go.Proofs.Try FA FB FC FD FE
def keZ : KE prog 3 Int := KE.int underlying3
theorem qnew_ (S : Nat → Prop) (wf : World) :
  TR0 prog 32 [] [] S wf (fun v_ C_ => ∃ (b : Nat) (pb : Nat), v_ = .pointer (some ⟨b, 0, none⟩) ∧ C_ = [cel b [.slice none 0 0, .map (some pb)] 113, mp keZ.f (.int .i64) pb []]) := by
 refine TR.mk func32 G ntmps32 G G (fun w_ => ?_)
 refine .seq (.region (.a G G G (.go idQ (.seq (.region (.cons (st_mkmap (α := Int) (β := Int) keZ.f (.int .i64) G G G G (fun b1 => ?_))))))))
 refine .v (ev_any (v := .agg #[.slice none 0 0, .map (some b1)]) G kR (fun _ => by kernel_rfl)) G (.v (ev_any (v := .agg #[.slice none 0 0, .map (some b1)]) G kR (fun _ => by kernel_rfl)) G (.cons (st_boxa G G G G G (fun b2 => (.a G G G ?_)))))
 refine .go idQ (.ret idQ (ret1 results32 G (.d .n) ⟨b2, b1, G, G⟩))
theorem olen_ (b : Nat) (A : Option Addr) (n : Nat) (c : Nat) (l : List EN) (pb : Nat) (m : List (Int × Int)) (S : Nat → Prop) (wf : World) (hn : l.length = n) :
  TR0 prog 67 [.pointer (some ⟨b, 0, none⟩)] [cel b [.slice A n c, .map (some pb)] 113, rw_ eEN 115 (.slice A n c) l, mp keZ.f (.int .i64) pb m] S wf (fun v_ C_ => v_ = .int .i64 (n : Int) ∧ C_ = [cel b [.slice A n c, .map (some pb)] 113, rw_ eEN 115 (.slice A n c) l, mp keZ.f (.int .i64) pb m]) := by
 refine TR.mk func67 G ntmps67 G G (fun w_ => ?_)
 refine .seq (.region (.a G G G (.go idQ (.seq (.region (.m G G G ?_))))))
 refine .v (ev_nil G G) G (.f fo111_0 0 G G G G (.l ty109 0 G G G G G (.g underlying109 G G G ?_)))
 refine .a G G G (.go idQ (.ret idQ (ret1 results67 G (.d (.c .h .n)) ⟨G, G⟩)))
theorem oless_ (b : Nat) (A : Option Addr) (n : Nat) (c : Nat) (l : List EN) (pb : Nat) (m : List (Int × Int)) (i : Int) (j : Int) (S : Nat → Prop) (wf : World) (hi : 0 ≤ i ∧ i < (n : Int)) (hj : 0 ≤ j ∧ j < (n : Int)) (hn : l.length = n) (hb : n ≤ 5000) :
  TR0 prog 117 [.pointer (some ⟨b, 0, none⟩), .int .i64 i, .int .i64 j] [cel b [.slice A n c, .map (some pb)] 113, rw_ eEN 115 (.slice A n c) l, mp keZ.f (.int .i64) pb m] S wf (fun v_ C_ => v_ = .bool (lessE (gt l i) (gt l j)) ∧ C_ = [cel b [.slice A n c, .map (some pb)] 113, rw_ eEN 115 (.slice A n c) l, mp keZ.f (.int .i64) pb m]) := by
 refine TR.mk func117 G ntmps117 G G (fun w_ => ?_)
 refine .seq (.region (.a G G G (.go idQ (.seq ?_))))
 refine SC.draw mo [] [] .n (fun _ _ _ => sc0) (fun wf_1 hl_1 hx_1 hR_1 => ?_)
 refine SR.m 0 G G G G ?_
 refine SR.z 1 G G (ev_nil G G) ?_
 refine SR.z 2 G G (ev_fa G fo111_0 G (r := 0) G) ?_
 refine SR.z 3 G G (ev_ld1 G ty109 G (At.d (At.lent hR_1 0 G G))) ?_
 refine SR.m 4 G G G G ?_
 refine SR.z 5 G G (ev_ix G underlying109 ty115 G G oO oO (fun _ _ => Fr.adr (i := i) (Fr.lent (S := S) hR_1 1 G lO) oO oO)) ?_
 refine SR.z 6 G G (ev_lda G G (At.d (Fr.el (i := i) (Fr.lent (S := S) hR_1 1 G lO) oO oO)) ty115) ?_
 refine SR.m 7 G G G G ?_
 refine SR.z 8 G G (ev_nil G G) ?_
 refine SR.z 9 G G (ev_fa G fo111_0 G (r := 0) G) ?_
 refine SR.z 10 G G (ev_ld1 G ty109 G (At.d (At.lent hR_1 0 G G))) ?_
 refine SR.m 11 G G G G ?_
 refine SR.z 12 G G (ev_ix G underlying109 ty115 G G oO oO (fun _ _ => Fr.adr (i := j) (Fr.lent (S := S) hR_1 1 G lO) oO oO)) ?_
 refine SR.z 13 G G (ev_lda G G (At.d (Fr.el (i := j) (Fr.lent (S := S) hR_1 1 G lO) oO oO)) ty115) ?_
 refine SR.two (i := 14) (j := 15) kR ⟨_, G, ?_⟩ ⟨_, G, ?_⟩
 ·
  refine st_alloc G G G G zf115 (fun b2 => ⟨tt0, ?_⟩)
  refine SR.o 15 G (st_alloc G G G G zf115 (fun b3 => ⟨tt0, ?_⟩))
  refine SR.o 16 G (st_storea (l' := [.int .i64 ((gt l i).ei), .int .i64 ((gt l i).ek)]) G G G ty115 G G G (.t .h) G G ⟨tt0, ?_⟩)
  refine SR.o 17 G (st_storea (l' := [.int .i64 ((gt l j).ei), .int .i64 ((gt l j).ek)]) G G G ty115 G G G (.t .h) G G ⟨tt0, ?_⟩)
  refine SR.fin kR hl_1 hx_1 hR_1 (.c (.c .n)) ?_
  refine SQ.go idQ ?_
  refine .seq (.region (.f fo115_1 1 G G G G (.l ty3 1 G G G G G (.f fo115_1 1 G G G G ?_))))
  refine .l ty3 0 G G G G G (.e G G G G G (.m G G G (.w (fun _ => ev_fa G fo115_1 G (r := 1) G) G ?_)))
  refine .w (fun hb => ev_ld1 G ty3 (lkg G hb) (At.own1 1 G G)) G (.w (fun _ => ev_fa G fo115_1 G (r := 1) G) G (.w (fun hb => ev_ld1 G ty3 (lkg G hb) (At.own1 0 G G)) G (.w (fun hb => ev_cmp G (lkg G hb) (lkg G hb) G) G ?_)))
  refine .w (fun hb => ev_mv G (lkg G hb)) G (.cons (Ev.ggstep (b1 := (decide (((gt l i).ek) < ((gt l j).ek)))) (b := (((gt l i).ek) == ((gt l j).ek))) cb_ft (fun hb1 _ => ev_fa G fo115_0 G (r := 0) G) G G G G G (.cons (Ev.ggstep (b1 := (decide (((gt l i).ek) < ((gt l j).ek)))) (b := (((gt l i).ek) == ((gt l j).ek))) cb_ft (fun hb1 hb => ev_ld1 G ty3 (lkg G hb) (At.own1 1 G G)) G G G G G (.cons (Ev.ggstep (b1 := (decide (((gt l i).ek) < ((gt l j).ek)))) (b := (((gt l i).ek) == ((gt l j).ek))) cb_ft (fun hb1 _ => ev_fa G fo115_0 G (r := 0) G) G G G G G ?_))))))
  refine .cons (Ev.ggstep (b1 := (decide (((gt l i).ek) < ((gt l j).ek)))) (b := (((gt l i).ek) == ((gt l j).ek))) cb_ft (fun hb1 hb => ev_ld1 G ty3 (lkg G hb) (At.own1 0 G G)) G G G G G ?_)
  refine .cons (Ev.ggstep (b1 := (decide (((gt l i).ek) < ((gt l j).ek)))) (b := (((gt l i).ek) == ((gt l j).ek))) cb_ft (fun hb1 hb => ev_cmp G (lkg G hb) (lkg G hb) G) G G G G G ?_)
  refine .w (fun hb => ev_and G (lkg G hb) (lkgn G cb_ft hb) G) G (.r G G G G G (.a G G G (.go idQ ?_)))
  exact .ret idQ (ret1 results117 G (.c (.t2 .h) (.c (.t2 .h) (.c (.t2 .h) .n))) ⟨G, G⟩)
 refine st_alloc G G G G zf115 (fun b4 => ⟨tt0, ?_⟩)
 refine SR.o 14 G (st_alloc G G G G zf115 (fun b5 => ⟨tt0, ?_⟩))
 refine SR.o 16 G (st_storea (l' := [.int .i64 ((gt l i).ei), .int .i64 ((gt l i).ek)]) G G G ty115 G G G .h G G ⟨tt0, ?_⟩)
 refine SR.o 17 G (st_storea (l' := [.int .i64 ((gt l j).ei), .int .i64 ((gt l j).ek)]) G G G ty115 G G G (.t .h) G G ⟨tt0, ?_⟩)
 refine SR.fin kR hl_1 hx_1 hR_1 (.c (.c .n)) ?_
 refine SQ.go idQ ?_
 refine .seq (.region (.f fo115_1 1 G G G G (.l ty3 1 G G G G G (.f fo115_1 1 G G G G ?_))))
 refine .l ty3 0 G G G G G (.e G G G G G (.m G G G (.w (fun _ => ev_fa G fo115_1 G (r := 1) G) G ?_)))
 refine .w (fun hb => ev_ld1 G ty3 (lkg G hb) (At.own1 1 G G)) G (.w (fun _ => ev_fa G fo115_1 G (r := 1) G) G (.w (fun hb => ev_ld1 G ty3 (lkg G hb) (At.own1 0 G G)) G (.w (fun hb => ev_cmp G (lkg G hb) (lkg G hb) G) G ?_)))
 refine .w (fun hb => ev_mv G (lkg G hb)) G (.cons (Ev.ggstep (b1 := (decide (((gt l i).ek) < ((gt l j).ek)))) (b := (((gt l i).ek) == ((gt l j).ek))) cb_ft (fun hb1 _ => ev_fa G fo115_0 G (r := 0) G) G G G G G (.cons (Ev.ggstep (b1 := (decide (((gt l i).ek) < ((gt l j).ek)))) (b := (((gt l i).ek) == ((gt l j).ek))) cb_ft (fun hb1 hb => ev_ld1 G ty3 (lkg G hb) (At.own1 1 G G)) G G G G G (.cons (Ev.ggstep (b1 := (decide (((gt l i).ek) < ((gt l j).ek)))) (b := (((gt l i).ek) == ((gt l j).ek))) cb_ft (fun hb1 _ => ev_fa G fo115_0 G (r := 0) G) G G G G G ?_))))))
 refine .cons (Ev.ggstep (b1 := (decide (((gt l i).ek) < ((gt l j).ek)))) (b := (((gt l i).ek) == ((gt l j).ek))) cb_ft (fun hb1 hb => ev_ld1 G ty3 (lkg G hb) (At.own1 0 G G)) G G G G G ?_)
 refine .cons (Ev.ggstep (b1 := (decide (((gt l i).ek) < ((gt l j).ek)))) (b := (((gt l i).ek) == ((gt l j).ek))) cb_ft (fun hb1 hb => ev_cmp G (lkg G hb) (lkg G hb) G) G G G G G ?_)
 refine .w (fun hb => ev_and G (lkg G hb) (lkgn G cb_ft hb) G) G (.r G G G G G (.a G G G (.go idQ ?_)))
 exact .ret idQ (ret1 results117 G (.c (.t2 .h) (.c (.t2 .h) (.c (.t2 .h) .n))) ⟨G, G⟩)
theorem oswap_ (b : Nat) (A : Option Addr) (n : Nat) (c : Nat) (l : List EN) (pb : Nat) (m : List (Int × Int)) (i : Int) (j : Int) (S : Nat → Prop) (wf : World) (hi : 0 ≤ i ∧ i < (n : Int)) (hj : 0 ≤ j ∧ j < (n : Int)) (hn : l.length = n) (hb : n ≤ 5000) (hq : QI l m) :
  TR0 prog 120 [.pointer (some ⟨b, 0, none⟩), .int .i64 i, .int .i64 j] [cel b [.slice A n c, .map (some pb)] 113, rw_ eEN 115 (.slice A n c) l, mp keZ.f (.int .i64) pb m] S wf (fun v_ C_ => ∃ (m2 : List (Int × Int)), (QI (swF l i j) m2) ∧ v_ = .tuple #[] ∧ C_ = [cel b [.slice A n c, .map (some pb)] 113, rw_ eEN 115 (.slice A n c) (swF l i j), mp keZ.f (.int .i64) pb m2]) := by
 have hs1 : (l.set i.toNat (gt l j)).length = l.length := by simp
 have hs2 : ((l.set i.toNat (gt l j)).set j.toNat (gt l i)).length = l.length := by simp
 refine TR.mk func120 G ntmps120 G G (fun w_ => ?_)
 refine .seq ?_
 refine SC.draw mo [rw_ eEN 115 (.slice A n c) l] [(25, fun w => At w (ab A) (ao A + (j).toNat * eEN.sz) (eEN.enc (gt l j))), (25, fun w => At w (ab A) (ao A + (i).toNat * eEN.sz) (eEN.enc (gt l i)))] (.c (.t .h) .n) (fun w_ _ hw_ => (sc1 (row_el (E := eEN) (l := l) (i := j) 0 G oO lO w_ hw_) (sc1 (row_el (E := eEN) (l := l) (i := i) 0 G oO lO w_ hw_) sc0))) (fun wf_1 hl_1 hx_1 hR_1 => ?_)
 refine SR.m 0 G G G G ?_
 refine SR.z 1 G G (ev_nil G G) ?_
 refine SR.z 2 G G (ev_fa G fo111_0 G (r := 0) G) ?_
 refine SR.z 3 G G (ev_ld1 G ty109 G (At.d (At.lent hR_1 0 G G))) ?_
 refine SR.m 4 G G G G ?_
 refine SR.m 5 G G G G ?_
 refine SR.z 6 G G (ev_nil G G) ?_
 refine SR.z 7 G G (ev_fa G fo111_0 G (r := 0) G) ?_
 refine SR.z 8 G G (ev_ld1 G ty109 G (At.d (At.lent hR_1 0 G G))) ?_
 refine SR.m 9 G G G G ?_
 refine SR.m 10 G G G G ?_
 refine SR.z 11 G G (ev_nil G G) ?_
 refine SR.z 12 G G (ev_fa G fo111_0 G (r := 0) G) ?_
 refine SR.z 13 G G (ev_ld1 G ty109 G (At.d (At.lent hR_1 0 G G))) ?_
 refine SR.m 14 G G G G ?_
 refine SR.m 17 G G G G ?_
 refine SR.z 18 G G (ev_nil G G) ?_
 refine SR.z 19 G G (ev_fa G fo111_0 G (r := 0) G) ?_
 refine SR.z 20 G G (ev_ld1 G ty109 G (At.d (At.lent hR_1 0 G G))) ?_
 refine SR.m 21 G G G G ?_
 refine SR.two (i := 15) (j := 22) kR ⟨_, G, ?_⟩ ⟨_, G, ?_⟩
 ·
  refine Ev.step (ev_ix G underlying109 ty115 G G oO oO (row_adr (i := j) 0 G oO oO)) G G G ⟨ttc (fun w_ hw_ => (tc1 (row_el (i := j) 0 G oO oO w_ hw_) (tc1 (row_el (i := i) 0 G oO oO w_ hw_) tc0))), ?_⟩
  refine SR.z 16 G G (ev_lda G G ((At.ofcs 0 G kR)) ty115) ?_
  refine SR.o 22 G (Ev.step (ev_ix G underlying109 ty115 G G oO oO (row_adr (i := i) 0 G oO oO)) G G G ⟨ttc (fun w_ hw_ => (tc1 (row_el (i := j) 0 G oO oO w_ hw_) (tc1 (row_el (i := i) 0 G oO oO w_ hw_) tc0))), ?_⟩)
  refine SR.z 23 G G (ev_lda G G ((At.ofcs 1 G kR)) ty115) ?_
  refine SR.o 24 G (Ev.step (ev_ix G underlying109 ty115 G G oO oO (row_adr (i := i) 0 G oO oO)) G G G ⟨ttc (fun w_ hw_ => (tc1 (row_el (i := j) 0 G oO oO w_ hw_) (tc1 (row_el (i := i) 0 G oO oO w_ hw_) tc0))), ?_⟩)
  refine SR.o 25 G (st_setel (E := eEN) (i := i) (cs := [.int .i64 ((gt l j).ei), .int .i64 ((gt l j).ek)]) (off := 0) (gt l j) G G G ty115 G G G G G .h lO lO (Nat.le_of_ble_eq_true G) G ⟨ttc (fun w_ hw_ => (tc2 kR (tc2 kR tc0))), ?_⟩)
  refine SR.o 26 G (Ev.step (ev_ix G underlying109 ty115 G G oO oO (row_adr (i := j) 0 G oO lO)) G G G ⟨ttc (fun w_ hw_ => (tc2 kR (tc2 kR tc0))), ?_⟩)
  refine SR.o 27 G (st_setel (E := eEN) (i := j) (cs := [.int .i64 ((gt l i).ei), .int .i64 ((gt l i).ek)]) (off := 0) (gt l i) G G G ty115 G G G G G .h lO lO (Nat.le_of_ble_eq_true G) G ⟨ttc (fun w_ hw_ => (tc2 kR (tc2 kR tc0))), ?_⟩)
  refine SR.fin kR hl_1 hx_1 hR_1 (.c .n) ?_
  refine SQ.go idQ ?_
  refine SC.draw mo [mp keZ.f (.int .i64) pb m] [] (.c (.t2 .h) .n) (fun _ _ _ => sc0) (fun wf_2 hl_2 hx_2 hR_2 => ?_)
  refine SR.m 0 G G G G ?_
  refine SR.z 1 G G (ev_nil G G) ?_
  refine SR.z 2 G G (ev_fa G fo111_1 G (r := 1) G) ?_
  refine SR.z 3 G G (ev_ld1 G ty68 G (At.d (At.lent hR_2 1 G G))) ?_
  refine SR.m 4 G G G G ?_
  refine SR.z 5 G G (ev_nil G G) ?_
  refine SR.z 6 G G (ev_fa G fo111_0 G (r := 0) G) ?_
  refine SR.z 7 G G (ev_ld1 G ty109 G (At.d (At.lent hR_2 1 G G))) ?_
  refine SR.m 8 G G G G ?_
  refine SR.z 9 G G (ev_ix G underlying109 ty115 G G oO oO (fun _ _ => Fr.adr (i := i) (Fr.lent (S := S) hR_2 0 G lO) oO oO)) ?_
  refine SR.z 10 G G (ev_fa G fo115_0 G (r := ao A + (i).toNat * 2) G) ?_
  refine SR.z 11 G G (ev_ld1 G ty3 G (At.elem1 (At.d (Fr.el (i := i) (Fr.lent (S := S) hR_2 0 G lO) oO oO)) 0 G)) ?_
  refine SR.m 12 G G G G ?_
  refine SR.z 13 G G (ev_nil G G) ?_
  refine SR.z 14 G G (ev_fa G fo111_1 G (r := 1) G) ?_
  refine SR.z 15 G G (ev_ld1 G ty68 G (At.d (At.lent hR_2 1 G G))) ?_
  refine SR.m 16 G G G G ?_
  refine SR.z 17 G G (ev_nil G G) ?_
  refine SR.z 18 G G (ev_fa G fo111_0 G (r := 0) G) ?_
  refine SR.z 19 G G (ev_ld1 G ty109 G (At.d (At.lent hR_2 1 G G))) ?_
  refine SR.m 20 G G G G ?_
  refine SR.z 21 G G (ev_ix G underlying109 ty115 G G oO oO (fun _ _ => Fr.adr (i := j) (Fr.lent (S := S) hR_2 0 G lO) oO oO)) ?_
  refine SR.z 22 G G (ev_fa G fo115_0 G (r := ao A + (j).toNat * 2) G) ?_
  refine SR.z 23 G G (ev_ld1 G ty3 G (At.elem1 (At.d (Fr.el (i := j) (Fr.lent (S := S) hR_2 0 G lO) oO oO)) 0 G)) ?_
  refine SR.m 24 G G G G ?_
  refine SR.m 25 G G G G ?_
  refine SR.o 26 G (st_mapEntry keZ (x := (gt ((l.set (i).toNat (gt l j)).set (j).toNat (gt l i)) i).ei) (z := 0) G G G G underlying68 zv3 G G .h (fun u3 n4 => ⟨tt0, ?_⟩))
  refine SR.z 27 G G (ev_ext G G G) ?_
  refine SR.o 28 G (st_entryStore keZ (u := undef) (x := (gt ((l.set (i).toNat (gt l j)).set (j).toNat (gt l i)) i).ei) (v := i) G G G G G G .h ⟨tt0, ?_⟩)
  refine SR.o 29 G (st_mapEntry keZ (x := (gt ((l.set (i).toNat (gt l j)).set (j).toNat (gt l i)) j).ei) (z := 0) G G G G underlying68 zv3 G G .h (fun u5 n6 => ⟨tt0, ?_⟩))
  refine SR.z 30 G G (ev_ext G G G) ?_
  refine SR.o 31 G (st_entryStore keZ (u := undef) (x := (gt ((l.set (i).toNat (gt l j)).set (j).toNat (gt l i)) j).ei) (v := j) G G G G G G .h ⟨tt0, ?_⟩)
  refine SR.fin kR hl_2 hx_2 hR_2 (.c .n) ?_
  exact end0 results120 (.c (.t2 .h) (.c (.t .h) (.c .h .n))) ⟨(mset (mins (mset (mins m ((gt ((l.set (i).toNat (gt l j)).set (j).toNat (gt l i)) i).ei) 0) ((gt ((l.set (i).toNat (gt l j)).set (j).toNat (gt l i)) i).ei) i) ((gt ((l.set (i).toNat (gt l j)).set (j).toNat (gt l i)) j).ei) 0) ((gt ((l.set (i).toNat (gt l j)).set (j).toNat (gt l i)) j).ei) j), (by have h_ := qi_swap hq (i := i) (j := j) oO oO; unfold swF at h_ ⊢; simpa only [mset_mins] using h_), G, G⟩
 refine Ev.step (ev_ix G underlying109 ty115 G G oO oO (row_adr (i := i) 0 G oO oO)) G G G ⟨ttc (fun w_ hw_ => (tc1 (row_el (i := j) 0 G oO oO w_ hw_) (tc1 (row_el (i := i) 0 G oO oO w_ hw_) tc0))), ?_⟩
 refine SR.z 23 G G (ev_lda G G ((At.ofcs 1 G kR)) ty115) ?_
 refine SR.o 15 G (Ev.step (ev_ix G underlying109 ty115 G G oO oO (row_adr (i := j) 0 G oO oO)) G G G ⟨ttc (fun w_ hw_ => (tc1 (row_el (i := j) 0 G oO oO w_ hw_) (tc1 (row_el (i := i) 0 G oO oO w_ hw_) tc0))), ?_⟩)
 refine SR.z 16 G G (ev_lda G G ((At.ofcs 0 G kR)) ty115) ?_
 refine SR.o 24 G (Ev.step (ev_ix G underlying109 ty115 G G oO oO (row_adr (i := i) 0 G oO oO)) G G G ⟨ttc (fun w_ hw_ => (tc1 (row_el (i := j) 0 G oO oO w_ hw_) (tc1 (row_el (i := i) 0 G oO oO w_ hw_) tc0))), ?_⟩)
 refine SR.o 25 G (st_setel (E := eEN) (i := i) (cs := [.int .i64 ((gt l j).ei), .int .i64 ((gt l j).ek)]) (off := 0) (gt l j) G G G ty115 G G G G G .h lO lO (Nat.le_of_ble_eq_true G) G ⟨ttc (fun w_ hw_ => (tc2 kR (tc2 kR tc0))), ?_⟩)
 refine SR.o 26 G (Ev.step (ev_ix G underlying109 ty115 G G oO oO (row_adr (i := j) 0 G oO lO)) G G G ⟨ttc (fun w_ hw_ => (tc2 kR (tc2 kR tc0))), ?_⟩)
 refine SR.o 27 G (st_setel (E := eEN) (i := j) (cs := [.int .i64 ((gt l i).ei), .int .i64 ((gt l i).ek)]) (off := 0) (gt l i) G G G ty115 G G G G G .h lO lO (Nat.le_of_ble_eq_true G) G ⟨ttc (fun w_ hw_ => (tc2 kR (tc2 kR tc0))), ?_⟩)
 refine SR.fin kR hl_1 hx_1 hR_1 (.c .n) ?_
 refine SQ.go idQ ?_
 refine SC.draw mo [mp keZ.f (.int .i64) pb m] [] (.c (.t2 .h) .n) (fun _ _ _ => sc0) (fun wf_7 hl_7 hx_7 hR_7 => ?_)
 refine SR.m 0 G G G G ?_
 refine SR.z 1 G G (ev_nil G G) ?_
 refine SR.z 2 G G (ev_fa G fo111_1 G (r := 1) G) ?_
 refine SR.z 3 G G (ev_ld1 G ty68 G (At.d (At.lent hR_7 1 G G))) ?_
 refine SR.m 4 G G G G ?_
 refine SR.z 5 G G (ev_nil G G) ?_
 refine SR.z 6 G G (ev_fa G fo111_0 G (r := 0) G) ?_
 refine SR.z 7 G G (ev_ld1 G ty109 G (At.d (At.lent hR_7 1 G G))) ?_
 refine SR.m 8 G G G G ?_
 refine SR.z 9 G G (ev_ix G underlying109 ty115 G G oO oO (fun _ _ => Fr.adr (i := i) (Fr.lent (S := S) hR_7 0 G lO) oO oO)) ?_
 refine SR.z 10 G G (ev_fa G fo115_0 G (r := ao A + (i).toNat * 2) G) ?_
 refine SR.z 11 G G (ev_ld1 G ty3 G (At.elem1 (At.d (Fr.el (i := i) (Fr.lent (S := S) hR_7 0 G lO) oO oO)) 0 G)) ?_
 refine SR.m 12 G G G G ?_
 refine SR.z 13 G G (ev_nil G G) ?_
 refine SR.z 14 G G (ev_fa G fo111_1 G (r := 1) G) ?_
 refine SR.z 15 G G (ev_ld1 G ty68 G (At.d (At.lent hR_7 1 G G))) ?_
 refine SR.m 16 G G G G ?_
 refine SR.z 17 G G (ev_nil G G) ?_
 refine SR.z 18 G G (ev_fa G fo111_0 G (r := 0) G) ?_
 refine SR.z 19 G G (ev_ld1 G ty109 G (At.d (At.lent hR_7 1 G G))) ?_
 refine SR.m 20 G G G G ?_
 refine SR.z 21 G G (ev_ix G underlying109 ty115 G G oO oO (fun _ _ => Fr.adr (i := j) (Fr.lent (S := S) hR_7 0 G lO) oO oO)) ?_
 refine SR.z 22 G G (ev_fa G fo115_0 G (r := ao A + (j).toNat * 2) G) ?_
 refine SR.z 23 G G (ev_ld1 G ty3 G (At.elem1 (At.d (Fr.el (i := j) (Fr.lent (S := S) hR_7 0 G lO) oO oO)) 0 G)) ?_
 refine SR.m 24 G G G G ?_
 refine SR.m 25 G G G G ?_
 refine SR.o 26 G (st_mapEntry keZ (x := (gt ((l.set (i).toNat (gt l j)).set (j).toNat (gt l i)) i).ei) (z := 0) G G G G underlying68 zv3 G G .h (fun u8 n9 => ⟨tt0, ?_⟩))
 refine SR.z 27 G G (ev_ext G G G) ?_
 refine SR.o 28 G (st_entryStore keZ (u := undef) (x := (gt ((l.set (i).toNat (gt l j)).set (j).toNat (gt l i)) i).ei) (v := i) G G G G G G .h ⟨tt0, ?_⟩)
 refine SR.o 29 G (st_mapEntry keZ (x := (gt ((l.set (i).toNat (gt l j)).set (j).toNat (gt l i)) j).ei) (z := 0) G G G G underlying68 zv3 G G .h (fun u10 n11 => ⟨tt0, ?_⟩))
 refine SR.z 30 G G (ev_ext G G G) ?_
 refine SR.o 31 G (st_entryStore keZ (u := undef) (x := (gt ((l.set (i).toNat (gt l j)).set (j).toNat (gt l i)) j).ei) (v := j) G G G G G G .h ⟨tt0, ?_⟩)
 refine SR.fin kR hl_7 hx_7 hR_7 (.c .n) ?_
 exact end0 results120 (.c (.t2 .h) (.c (.t .h) (.c .h .n))) ⟨(mset (mins (mset (mins m ((gt ((l.set (i).toNat (gt l j)).set (j).toNat (gt l i)) i).ei) 0) ((gt ((l.set (i).toNat (gt l j)).set (j).toNat (gt l i)) i).ei) i) ((gt ((l.set (i).toNat (gt l j)).set (j).toNat (gt l i)) j).ei) 0) ((gt ((l.set (i).toNat (gt l j)).set (j).toNat (gt l i)) j).ei) j), (by have h_ := qi_swap hq (i := i) (j := j) oO oO; unfold swF at h_ ⊢; simpa only [mset_mins] using h_), G, G⟩
theorem opush_ (b : Nat) (A : Option Addr) (n : Nat) (c : Nat) (l : List EN) (pb : Nat) (m : List (Int × Int)) (e : EN) (S : Nat → Prop) (wf : World) (hn : l.length = n) (hb : n ≤ 5000) (hq : QI l m) (he : mhas m e.ei = false) :
  TR0 prog 119 [.pointer (some ⟨b, 0, none⟩), .iface 115 (.agg #[.int .i64 e.ei, .int .i64 e.ek])] [cel b [.slice A n c, .map (some pb)] 113, rw_ eEN 115 (.slice A n c) l, mp keZ.f (.int .i64) pb m] S wf (fun v_ C_ => ∃ (u : Value) (m2 : List (Int × Int)), (QI (l ++ [e]) m2) ∧ v_ = .tuple #[] ∧ C_ = [cel b [u, .map (some pb)] 113, rw_ eEN 115 (u) (l ++ [e]), mp keZ.f (.int .i64) pb m2]) := by
 refine TR.mk func119 G ntmps119 G G (fun w_ => ?_)
 refine .seq (.region (.m G G G (.v (ev_any (v := .agg #[.int .i64 e.ei, .int .i64 e.ek]) G kR (fun _ => by kernel_rfl)) G (.cons (st_alloc G G G G zf115 (fun b1 => ?_))))))
 refine .cons (st_storea (l' := [.int .i64 e.ei, .int .i64 e.ek]) G G G ty115 G G G .h G G ?_)
 refine .go idQ (.seq ?_)
 refine SC.draw mo [mp keZ.f (.int .i64) pb m] [] (.c (.t2 (.t .h)) .n) (fun _ _ _ => sc0) (fun wf_2 hl_2 hx_2 hR_2 => ?_)
 refine SR.m 0 G G G G ?_
 refine SR.z 1 G G (ev_nil G G) ?_
 refine SR.z 2 G G (ev_fa G fo111_1 G (r := 1) G) ?_
 refine SR.z 3 G G (ev_ld1 G ty68 G (At.d (At.lent hR_2 1 G G))) ?_
 refine SR.z 4 G G (ev_fa G fo115_0 G (r := 0) G) ?_
 refine SR.z 5 G G (ev_ld1 G ty3 G (At.d (At.lent hR_2 0 G G))) ?_
 refine SR.m 6 G G G G ?_
 refine SR.z 7 G G (ev_nil G G) ?_
 refine SR.z 8 G G (ev_fa G fo111_0 G (r := 0) G) ?_
 refine SR.z 9 G G (ev_ld1 G ty109 G (At.d (At.lent hR_2 1 G G))) ?_
 refine SR.z 10 G G (ev_len G underlying109 G) ?_
 refine SR.o 11 G (st_mapSet keZ (u := undef) (x := e.ei) (v := (n : Int)) G G G underlying68 G G G .h ⟨tt0, ?_⟩)
 refine SR.fin kR hl_2 hx_2 hR_2 (.c .n) ?_
 refine SQ.go idQ ?_
 refine SC.draw mo [cel b [.slice A n c, .map (some pb)] 113, rw_ eEN 115 (.slice A n c) l] [(10, fun w => At w b 0 [.slice A n c, .map (some pb)])] (.c (.t2 .h) (.c (.t2 .h) .n)) (fun w_ _ hw_ => (sc1 (At.whole 0 G w_ hw_) sc0)) (fun wf_3 hl_3 hx_3 hR_3 => ?_)
 refine SR.m 0 G G G G ?_
 refine SR.m 1 G G G G ?_
 refine SR.z 2 G G (ev_nil G G) ?_
 refine SR.z 3 G G (ev_fa G fo111_0 G (r := 0) G) ?_
 refine SR.z 4 G G (ev_ld1 G ty109 G (At.elem1 (v := .slice A n c) (At.ofcs 0 G kR) 0 G)) ?_
 refine SR.z 5 G G (ev_lda (cs := [.int .i64 e.ei, .int .i64 e.ek]) G G (At.d (At.lent hR_3 1 G G)) ty115) ?_
 refine SR.o 6 G (st_lit eEN (e := 115) (l := [e]) G G G G kR G G kW (fun b4 => ⟨ttw 1 G, ?_⟩))
 refine SR.o 7 G (st_app (E := eEN) (m := [e]) G G G G underlying109 ai115 G G G (.t2 .h) rO (row_src 0 G) lO G (fun v5 => ⟨ttw 2 G, ?_⟩))
 refine SR.z 8 G G (ev_nil G G) ?_
 refine SR.z 9 G G (ev_fa G fo111_0 G (r := 0) G) ?_
 refine .know (row_len 0 G) (fun hv8 => ?_)
 obtain ⟨A6, c7, rfl, hv8_1, hv8_2⟩ := hv8
 unfold maxLen at hv8_2
 refine SR.o 10 G (st_store1 G G G ty109 G G G (.t2 .h) .h ⟨ttc (fun w_ hw_ => (tc2 kR tc0)), ?_⟩)
 refine SR.fin kR hl_3 hx_3 hR_3 (.c (.c (.c .n))) ?_
 exact end0 results119 (.d (.c (.t .h) .n)) ⟨.slice A6 ((l ++ [e]).length) c7, (mset m e.ei (n : Int)), (by have h_ := qi_push hq he; rw [hn] at h_; exact h_), G, G⟩
theorem opop_ (b : Nat) (A : Option Addr) (n : Nat) (c : Nat) (l : List EN) (pb : Nat) (m : List (Int × Int)) (S : Nat → Prop) (wf : World) (h0 : 0 < n) (hn : l.length = n) (hb : n ≤ 5000) (hq : QI l m) :
  TR0 prog 118 [.pointer (some ⟨b, 0, none⟩)] [cel b [.slice A n c, .map (some pb)] 113, rw_ eEN 115 (.slice A n c) l, mp keZ.f (.int .i64) pb m] S wf (fun v_ C_ => ∃ (m2 : List (Int × Int)), (QI (l.take (n - 1)) m2) ∧ v_ = .iface 115 (.agg #[.int .i64 ((gt l ((n - 1 : Nat) : Int)).ei), .int .i64 ((gt l ((n - 1 : Nat) : Int)).ek)]) ∧ C_ = [cel b [.slice A (n - 1) c, .map (some pb)] 113, rw_ eEN 115 (.slice A (n - 1) c) (l.take (n - 1)), mp keZ.f (.int .i64) pb m2]) := by
 refine TR.mk func118 G ntmps118 G G (fun w_ => ?_)
 refine .seq (.region (.a G G G (.go idQ (.seq ?_))))
 refine SC.draw mo [] [] .n (fun _ _ _ => sc0) (fun wf_1 hl_1 hx_1 hR_1 => ?_)
 refine SR.m 0 G G G G ?_
 refine SR.z 1 G G (ev_nil G G) ?_
 refine SR.z 2 G G (ev_fa G fo111_0 G (r := 0) G) ?_
 refine SR.z 3 G G (ev_ld1 G ty109 G (At.d (At.lent hR_1 0 G G))) ?_
 refine SR.m 4 G G G G ?_
 refine SR.z 5 G G (ev_nil G G) ?_
 refine SR.z 6 G G (ev_fa G fo111_0 G (r := 0) G) ?_
 refine SR.z 7 G G (ev_ld1 G ty109 G (At.d (At.lent hR_1 0 G G))) ?_
 refine SR.z 8 G G (ev_len G underlying109 G) ?_
 refine SR.z 9 G G (ev_sub G G G (r := ((n : Int) - 1)) G oO oO) ?_
 refine SR.z 10 G G (ev_ix G underlying109 ty115 G G oO oO (fun _ _ => Fr.adr (i := ((n : Int) - 1)) (Fr.lent (S := S) hR_1 1 G lO) oO oO)) ?_
 refine SR.z 11 G G (ev_lda G G (At.d (Fr.el (i := ((n : Int) - 1)) (Fr.lent (S := S) hR_1 1 G lO) oO oO)) ty115) ?_
 refine SR.o 12 G (st_alloc G G G G zf115 (fun b2 => ⟨tt0, ?_⟩))
 refine SR.o 13 G (st_storea (l' := [.int .i64 ((gt l ((n : Int) - 1)).ei), .int .i64 ((gt l ((n : Int) - 1)).ek)]) G G G ty115 G G G .h G G ⟨tt0, ?_⟩)
 refine SR.fin kR hl_1 hx_1 hR_1 (.c .n) ?_
 refine SQ.go idQ ?_
 refine .seq (.know (row_len 2 G) (fun hv_ => ?_))
 obtain ⟨_, _, hv1, hv2, hv3⟩ := hv_
 injection hv1 with _ _ hv4; subst hv4
 refine SC.draw mo [cel b [.slice A n c, .map (some pb)] 113] [(14, fun w => At w b 0 [.slice A n c, .map (some pb)])] (.c (.t .h) .n) (fun w_ _ hw_ => (sc1 (At.whole 0 G w_ hw_) sc0)) (fun wf_3 hl_3 hx_3 hR_3 => ?_)
 refine SR.m 0 G G G G ?_
 refine SR.m 1 G G G G ?_
 refine SR.z 2 G G (ev_nil G G) ?_
 refine SR.z 3 G G (ev_fa G fo111_0 G (r := 0) G) ?_
 refine SR.z 4 G G (ev_ld1 G ty109 G (At.elem1 (v := .slice A n c) (At.ofcs 0 G kR) 0 G)) ?_
 refine SR.m 5 G G G G ?_
 refine SR.z 6 G G (ev_nil G G) ?_
 refine SR.z 7 G G (ev_fa G fo111_0 G (r := 0) G) ?_
 refine SR.z 8 G G (ev_ld1 G ty109 G (At.elem1 (v := .slice A n c) (At.ofcs 0 G kR) 0 G)) ?_
 refine SR.z 9 G G (ev_len G underlying109 G) ?_
 refine SR.z 10 G G (ev_sub G G G (r := ((n : Int) - 1)) G oO oO) ?_
 refine SR.z 11 G G (ev_slca G underlying109 ty115 G (.s G oO) oO) ?_
 refine SR.z 12 G G (ev_nil G G) ?_
 refine SR.z 13 G G (ev_fa G fo111_0 G (r := 0) G) ?_
 refine SR.o 14 G (st_store1 G G G ty109 G G G .h .h ⟨ttc (fun w_ hw_ => (tc2 kR tc0)), ?_⟩)
 refine SR.fin kR hl_3 hx_3 hR_3 (.c .n) ?_
 refine SQ.go idQ ?_
 refine .seq ?_
 rw [show ((n : Int) - 1).toNat = n - 1 from by omega]
 rw [show ((n : Int) - 1) = ((n - 1 : Nat) : Int) from by omega]
 refine SC.cutrow (n - 1) (.t2 .h) oO ?_
 refine SC.draw mo [mp keZ.f (.int .i64) pb m] [] (.c (.t2 (.t .h)) .n) (fun _ _ _ => sc0) (fun wf_4 hl_4 hx_4 hR_4 => ?_)
 refine SR.m 0 G G G G ?_
 refine SR.z 1 G G (ev_nil G G) ?_
 refine SR.z 2 G G (ev_fa G fo111_1 G (r := 1) G) ?_
 refine SR.z 3 G G (ev_ld1 G ty68 G (At.d (At.lent hR_4 1 G G))) ?_
 refine SR.z 4 G G (ev_fa G fo115_0 G (r := 0) G) ?_
 refine SR.z 5 G G (ev_ld1 G ty3 G (At.d (At.lent hR_4 2 G G))) ?_
 refine SR.o 6 G (st_mapDel keZ (x := (gt l ((n - 1 : Nat) : Int)).ei) G G G G underlying68 G G .h ⟨tt0, ?_⟩)
 refine SR.fin kR hl_4 hx_4 hR_4 (.c .n) ?_
 refine SQ.go idQ ?_
 refine .seq (.region (.d 3 ty115 G G G G (.v (ev_any (v := .iface 115 (.agg #[.int .i64 ((gt l ((n - 1 : Nat) : Int)).ei), .int .i64 ((gt l ((n - 1 : Nat) : Int)).ek)])) G kR (fun _ => by kernel_rfl)) G (.a G G G ?_))))
 refine .go idQ (.ret idQ (ret1 results118 G (.c (.t2 .h) (.c (.t .h) (.c .h .n))) ⟨(mdel m ((gt l ((n - 1 : Nat) : Int)).ei)), (qi_pop hq oO), G, G⟩))
end Go.Proofs.Ytpjblnmophcdmaa.Sx
set_option maxRecDepth 20000
set_option maxHeartbeats 8000000
namespace Go.Proofs.Ytpjblnmophcdmaa.Sx.FF
open Go Go.SX Go.Proofs Go.Proofs.Try FA FB FC FD FE
theorem hbd117 : hasBody prog 117 = true := by kernel_rfl
theorem hbd120 : hasBody prog 120 = true := by kernel_rfl
theorem hbd119 : hasBody prog 119 = true := by kernel_rfl
theorem hbd67 : hasBody prog 67 = true := by kernel_rfl
theorem hbd68 : hasBody prog 68 = true := by kernel_rfl
theorem hbd69 : hasBody prog 69 = true := by kernel_rfl
theorem hbd118 : hasBody prog 118 = true := by kernel_rfl
theorem mth117_Less (b : Nat) (w : World) : (method (prog.types.size + Made.depth) 117 (.pointer (some ⟨b, 0, none⟩)) "Less").run prog w = .ok (117, .pointer (some ⟨b, 0, none⟩)) w := by kernel_rfl
theorem mth117_Swap (b : Nat) (w : World) : (method (prog.types.size + Made.depth) 117 (.pointer (some ⟨b, 0, none⟩)) "Swap").run prog w = .ok (120, .pointer (some ⟨b, 0, none⟩)) w := by kernel_rfl
theorem mth117_Push (b : Nat) (w : World) : (method (prog.types.size + Made.depth) 117 (.pointer (some ⟨b, 0, none⟩)) "Push").run prog w = .ok (119, .pointer (some ⟨b, 0, none⟩)) w := by kernel_rfl
theorem mth117_Len (b : Nat) (w : World) : (method (prog.types.size + Made.depth) 117 (.pointer (some ⟨b, 0, none⟩)) "Len").run prog w = .ok (67, .pointer (some ⟨b, 0, none⟩)) w := by kernel_rfl
theorem mth117_Pop (b : Nat) (w : World) : (method (prog.types.size + Made.depth) 117 (.pointer (some ⟨b, 0, none⟩)) "Pop").run prog w = .ok (118, .pointer (some ⟨b, 0, none⟩)) w := by kernel_rfl
end Go.Proofs.Ytpjblnmophcdmaa.Sx.FF
namespace Go.Proofs.Ytpjblnmophcdmaa.Sx
open Go Go.SX Go.Proofs Go.Proofs.Try FA FB FC FD FE FF
theorem hup_ (b : Nat) (A : Option Addr) (n : Nat) (c : Nat) (l : List EN) (pb : Nat) (m : List (Int × Int)) (j : Int) (S : Nat → Prop) (wf : World) (hj : 0 ≤ j ∧ j < (n : Int)) (hn : l.length = n) (hb : n ≤ 5000) (hq : QI l m) (hu : UpI l n j) :
  TR0 prog 68 [.iface 117 (.pointer (some ⟨b, 0, none⟩)), .int .i64 j] [cel b [.slice A n c, .map (some pb)] 113, rw_ eEN 115 (.slice A n c) l, mp keZ.f (.int .i64) pb m] S wf (fun v_ C_ => ∃ (l2 : List EN) (m2 : List (Int × Int)), (l2.Perm l) ∧ (QI l2 m2) ∧ (Hp l2 n) ∧ v_ = .tuple #[] ∧ C_ = [cel b [.slice A n c, .map (some pb)] 113, rw_ eEN 115 (.slice A n c) l2, mp keZ.f (.int .i64) pb m2]) := by
 refine TR.mk func68 G ntmps68 G G (fun w_ => ?_)
 refine .block (.loop (X := Int × (List EN) × (List (Int × Int))) (fun ⟨x, X, M⟩ => X.Perm l ∧ QI X M ∧ X.length = n ∧ UpI X n x ∧ 0 ≤ x ∧ x < n) (fun ⟨x, X, M⟩ => [(0, .iface 117 (.pointer (some ⟨b, 0, none⟩))), (1, .int .i64 x)]) (fun ⟨x, X, M⟩ => [cel b [.slice A n c, .map (some pb)] 113, rw_ eEN 115 (.slice A n c) X, mp keZ.f (.int .i64) pb M]) (fun _ => S) (fun _ => wf) (fun ⟨x, X, M⟩ => x.toNat) (fun a_ w_ hs_ hw_ => ⟨⟨j, l, m⟩, (by (try dsimp only); exact ⟨(List.Perm.refl _), hq, oO, hu, oO, oO⟩), hs_.mono (Sub.get (.c G (.c G .n))), hw_.keep (.d (.c .h .n))⟩) (fun ⟨x, X, M⟩ ⟨q_0, q_1, q_2, q_3, q_4, q_5⟩ => ?_))
 try dsimp only
 refine .block (.seq (.region (.m G G G (.v (ev_sub G G G (r := (x - 1)) G oO oO) G (.v (ev_quo G G G oO) G ?_)))))
 refine .a G G G (.go idQ (.seq (.seq ?_)))
 generalize hi_ : IntKind.i64.wrap (Int.tdiv (x - 1) 2) = p
 have hpar := par_eq hi_ oO oO
 refine .region (.m G G G (.m G G G (.e G G G G G ?_)))
 refine .m G G G (.w (fun _ => ev_mv G G) G (.w (fun _ => ev_mv G G) G (.w (fun _ => ev_mv G G) G ?_)))
 refine .cons (st_gcallki G G G G G G (fun hb => (lkg G hb)) (mth117_Less b) hbd117 (fun hb => (lkA1 G (lkA1 (lkg G hb) (lkA1 (lkg G hb) lkA0)))) (.d (.c .h .n)) (fun hb => have hp := bF bE hb; oless_ b A n c X pb M x p _ _ oO oO lO oO) ?_)
 refine .w (fun hb => ev_not G (lkg G hb)) G (.r G G G G G (.go idQ (.condI G (bO bE (bN less_iff)) (fun h1 => ?_) (fun h1 => ?_))))
 ·
  exact .exitq idQ (end0 results68 (.d (.c .h .n)) ⟨X, M, q_0, q_1, (by rcases hpar with ⟨h1_, h2_⟩ | ⟨h1_, h2_, h3_, h4_⟩; exact (by rw [h1_] at q_3; exact up_root q_3); rcases h1 with h5_ | h5_; exact absurd h5_ oO; rw [h2_] at h5_; exact up_end q_3 h5_), rfl, rfl⟩)
 refine .skipgo idQ (.seq (.region (.m G G G (.m G G G (.m G G G ?_)))))
 refine .cons (.viainv (args' := #[.const (.pointer (some ⟨b, 0, none⟩)), .tmp 19, .tmp 20]) G G (mth117_Swap b) G hbd120 (st_call0 G G G G hbd120 G (.d (.c .h .n)) (oswap_ b A n c X pb M p x _ _ oO oO lO oO oO) (fun v_q3 C_q3 q3 => ?_)))
 obtain ⟨m22, p4, rfl, rfl⟩ := q3
 show SP _ _ _ _ _ _ ⟨_, _ :: _ :: _ :: _, _, _⟩
 refine .go idQ (.region (.m G G G (.a G G G ?_)))
 exact SP.nil (SQ.roundb (X := Int × (List EN) × (List (Int × Int))) (x := (x, X, M)) ⟨p, (swF X p x), m22⟩ (by (try dsimp only); exact ⟨((swF_perm oO oO).trans q_0), p4, (by rw [swF_len]; exact q_2), (by rcases hpar with ⟨h1_, h2_⟩ | ⟨h1_, h2_, h3_, h4_⟩; exact absurd (.inl oO) h1; rw [h2_]; exact up_step q_3 oO h1_ oO (by rw [← h2_]; exact Classical.byContradiction fun h_ => h1 (.inr h_))), oO, oO⟩) (by dsimp only; rcases hpar with ⟨h1_, h2_⟩ | ⟨h1_, h2_, h3_, h4_⟩; exact absurd (.inl oO) h1; omega) (Sub.get (.c rfl (.c rfl .n))) (kp (.d (.c .h .n))))
theorem hdown_ (b : Nat) (A : Option Addr) (n : Nat) (c : Nat) (l : List EN) (pb : Nat) (m : List (Int × Int)) (k : Int) (S : Nat → Prop) (wf : World) (hk : 0 ≤ k ∧ k < (n : Int)) (hn : l.length = n) (hb : n ≤ 5000) (hq : QI l m) (hu : DnI l k 0) :
  TR0 prog 69 [.iface 117 (.pointer (some ⟨b, 0, none⟩)), .int .i64 0, .int .i64 k] [cel b [.slice A n c, .map (some pb)] 113, rw_ eEN 115 (.slice A n c) l, mp keZ.f (.int .i64) pb m] S wf (fun v_ C_ => ∃ (r : Bool) (l2 : List EN) (m2 : List (Int × Int)), (l2.Perm l) ∧ (QI l2 m2) ∧ (Hp l2 k) ∧ (gt l2 k = gt l k) ∧ v_ = .bool r ∧ C_ = [cel b [.slice A n c, .map (some pb)] 113, rw_ eEN 115 (.slice A n c) l2, mp keZ.f (.int .i64) pb m2]) := by
 refine TR.mk func69 G ntmps69 G G (fun w_ => ?_)
 refine .seq (.region (.a G G G (.go idQ (.seq (.region (.m G G G ?_))))))
 refine .a G G G (.go idQ (.seq (.block (.loop (X := Int × (List EN) × (List (Int × Int))) (fun ⟨x, X, M⟩ => X.Perm l ∧ QI X M ∧ X.length = n ∧ DnI X k x ∧ gt X k = gt l k ∧ 0 ≤ x ∧ x ≤ k) (fun ⟨x, X, M⟩ => [(0, .iface 117 (.pointer (some ⟨b, 0, none⟩))), (1, .int .i64 0), (2, .int .i64 k), (6, .bool false), (7, .int .i64 x)]) (fun ⟨x, X, M⟩ => [cel b [.slice A n c, .map (some pb)] 113, rw_ eEN 115 (.slice A n c) X, mp keZ.f (.int .i64) pb M]) (fun _ => S) (fun _ => wf) (fun ⟨x, X, M⟩ => (k - x).toNat) (fun a_ w_ hs_ hw_ => ⟨⟨0, l, m⟩, (by (try dsimp only); exact ⟨(List.Perm.refl _), hq, oO, hu, G, oO, oO⟩), hs_.mono (Sub.get (.c4 G G G G (.c G .n))), hw_.keep (.d (.c .h .n))⟩) (fun ⟨x, X, M⟩ ⟨q_0, q_1, q_2, q_3, q_4, q_5, q_6⟩ => ?_)))))
 try dsimp only
 refine .block (.seq (.region (.m G G G (.v (ev_mul G G G (r := (2 * x)) G oO oO) G (.p (((2 * x) + 1)) oO oO G G G G G ?_)))))
 refine .a G G G (.go idQ (.seq (.seq (.region (.m G G G (.m G G G ?_))))))
 refine .e G G G G G (.m G G G (.w (fun _ => ev_mv G G) G (.w (fun hb => ev_cmp G (lkg G hb) G G) G ?_)))
 refine .r G G G G G (.go idQ (.condI G (bO bD bD) (fun h1 => ?_) (fun h1 => ?_)))
 ·
  refine .exit idQ ?_
  refine .seq (.region (.m G G G (.m G G G (.e G G G G G ?_))))
  refine .a G G G (.go idQ (.ret idQ (ret1 results69 G (.d (.c .h .n)) ⟨decide (x > 0), X, M, q_0, q_1, (dn_leaf q_3 oO), q_4, G, G⟩)))
 refine .skipgo idQ (.seq (.region (.m G G G (.a G G G (.go idQ (.seq (.seq (.region ?_))))))))
 refine .m G G G (.p ((((2 * x) + 1) + 1)) oO oO G G G G G (.a G G G (.go idQ (.seq (.region ?_)))))
 refine .m G G G (.m G G G (.e G G G G G (.m G G G ?_)))
 refine .w (fun _ => ev_mv G G) G (.w (fun _ => ev_mv G G) G (.w (fun _ => ev_mv G G) G (.cons (st_gcallki G G G G G G (fun hb => (lkg G hb)) (mth117_Less b) hbd117 (fun hb => (lkA1 G (lkA1 (lkg G hb) (lkA1 (lkg G hb) lkA0)))) (.d (.c .h .n)) (fun hb => have hp := bT bD hb; oless_ b A n c X pb M (((2 * x) + 1) + 1) ((2 * x) + 1) _ _ oO oO lO oO) ?_))))
 refine .v (ev_and G G G G) G (.go idQ (.condI G (bA bD less_iff) (fun h2 => ?_) (fun h2 => ?_)))
 ·
  refine .region (.m G G G (.a G G G (.go idQ (.seq (.seq (.region ?_))))))
  refine .m G G G (.m G G G (.m G G G (.cons (.viainv (args' := #[.const (.pointer (some ⟨b, 0, none⟩)), .tmp 36, .tmp 37]) G G (mth117_Less b) G hbd117 (st_callk G G G G hbd117 G (.d (.c .h .n)) (oless_ b A n c X pb M (((2 * x) + 1) + 1) x _ _ oO oO lO oO) ?_)))))
  refine .v (ev_not G G) G (.go idQ (.condI G (bN less_iff) (fun h3 => ?_) (fun h3 => ?_)))
  ·
   refine .exit idQ ?_
   refine .seq (.region (.m G G G (.m G G G (.e G G G G G ?_))))
   refine .a G G G (.go idQ (.ret idQ (ret1 results69 G (.d (.c .h .n)) ⟨decide (x > 0), X, M, q_0, q_1, (dn_end q_3 (j := (((2 * x) + 1) + 1)) h3 (dn_oth2 h2.2)), q_4, G, G⟩)))
  refine .skipgo idQ (.seq (.region (.m G G G (.m G G G (.m G G G ?_)))))
  refine .cons (.viainv (args' := #[.const (.pointer (some ⟨b, 0, none⟩)), .tmp 41, .tmp 42]) G G (mth117_Swap b) G hbd120 (st_call0 G G G G hbd120 G (.d (.c .h .n)) (oswap_ b A n c X pb M x (((2 * x) + 1) + 1) _ _ oO oO lO oO oO) (fun v_q5 C_q5 q5 => ?_)))
  obtain ⟨m24, p6, rfl, rfl⟩ := q5
  show SP _ _ _ _ _ _ ⟨_, _ :: _ :: _ :: _, _, _⟩
  refine .go idQ (.region (.m G G G (.a G G G ?_)))
  exact SP.nil (SQ.roundb (X := Int × (List EN) × (List (Int × Int))) (x := (x, X, M)) ⟨(((2 * x) + 1) + 1), (swF X x (((2 * x) + 1) + 1)), m24⟩ (by (try dsimp only); exact ⟨((swF_perm oO oO).trans q_0), p6, (by rw [swF_len]; exact q_2), (dn_step q_3 oO oO oO oO oO (Classical.byContradiction fun h_ => h3 h_) (dn_oth2 h2.2)), (by rw [gt_swF oO oO oO, if_neg oO, if_neg oO]; exact q_4), oO, oO⟩) dO (Sub.get (.c4 G G G G (.c G .n))) (kp (.d (.c .h .n))))
 refine .skipgo idQ (.seq (.seq (.region (.m G G G (.m G G G (.m G G G ?_))))))
 refine .cons (.viainv (args' := #[.const (.pointer (some ⟨b, 0, none⟩)), .tmp 36, .tmp 37]) G G (mth117_Less b) G hbd117 (st_callk G G G G hbd117 G (.d (.c .h .n)) (oless_ b A n c X pb M ((2 * x) + 1) x _ _ oO oO lO oO) ?_))
 refine .v (ev_not G G) G (.go idQ (.condI G (bN less_iff) (fun h7 => ?_) (fun h7 => ?_)))
 ·
  refine .exit idQ ?_
  refine .seq (.region (.m G G G (.m G G G (.e G G G G G ?_))))
  refine .a G G G (.go idQ (.ret idQ (ret1 results69 G (.d (.c .h .n)) ⟨decide (x > 0), X, M, q_0, q_1, (dn_end q_3 (j := ((2 * x) + 1)) h7 (dn_oth1 h2)), q_4, G, G⟩)))
 refine .skipgo idQ (.seq (.region (.m G G G (.m G G G (.m G G G ?_)))))
 refine .cons (.viainv (args' := #[.const (.pointer (some ⟨b, 0, none⟩)), .tmp 41, .tmp 42]) G G (mth117_Swap b) G hbd120 (st_call0 G G G G hbd120 G (.d (.c .h .n)) (oswap_ b A n c X pb M x ((2 * x) + 1) _ _ oO oO lO oO oO) (fun v_q9 C_q9 q9 => ?_)))
 obtain ⟨m28, p10, rfl, rfl⟩ := q9
 show SP _ _ _ _ _ _ ⟨_, _ :: _ :: _ :: _, _, _⟩
 refine .go idQ (.region (.m G G G (.a G G G ?_)))
 exact SP.nil (SQ.roundb (X := Int × (List EN) × (List (Int × Int))) (x := (x, X, M)) ⟨((2 * x) + 1), (swF X x ((2 * x) + 1)), m28⟩ (by (try dsimp only); exact ⟨((swF_perm oO oO).trans q_0), p10, (by rw [swF_len]; exact q_2), (dn_step q_3 oO oO oO oO oO (Classical.byContradiction fun h_ => h7 h_) (dn_oth1 h2)), (by rw [gt_swF oO oO oO, if_neg oO, if_neg oO]; exact q_4), oO, oO⟩) dO (Sub.get (.c4 G G G G (.c G .n))) (kp (.d (.c .h .n))))
theorem hdownf_ (b : Nat) (A : Option Addr) (n : Nat) (c : Nat) (l : List EN) (pb : Nat) (m : List (Int × Int)) (i : Int) (S : Nat → Prop) (wf : World) (hi : 0 ≤ i ∧ i < (n : Int)) (hn : l.length = n) (hb : n ≤ 5000) (hch : ∀ k : Int, 0 < k → k < n → (k - 1) / 2 = i → ¬ ltE (gt l k) (gt l i)) :
  TR0 prog 69 [.iface 117 (.pointer (some ⟨b, 0, none⟩)), .int .i64 i, .int .i64 (n : Int)] [cel b [.slice A n c, .map (some pb)] 113, rw_ eEN 115 (.slice A n c) l, mp keZ.f (.int .i64) pb m] S wf (fun v_ C_ => v_ = .bool false ∧ C_ = [cel b [.slice A n c, .map (some pb)] 113, rw_ eEN 115 (.slice A n c) l, mp keZ.f (.int .i64) pb m]) := by
 refine TR.mk func69 G ntmps69 G G (fun w_ => ?_)
 refine .seq (.region (.a G G G (.go idQ (.seq (.region (.m G G G ?_))))))
 refine .a G G G (.go idQ (.seq (.block (.loop (X := Int) (fun x => i = x ∧ 0 ≤ x) (fun x => [(0, .iface 117 (.pointer (some ⟨b, 0, none⟩))), (1, .int .i64 i), (2, .int .i64 (n : Int)), (6, .bool false), (7, .int .i64 x)]) (fun x => [cel b [.slice A n c, .map (some pb)] 113, rw_ eEN 115 (.slice A n c) l, mp keZ.f (.int .i64) pb m]) (fun _ => S) (fun _ => wf) (fun x => 0) (fun a_ w_ hs_ hw_ => ⟨i, (by (try dsimp only); exact ⟨G, oO⟩), hs_.mono (Sub.get (.c4 G G G G (.c G .n))), hw_.keep (.d (.c .h .n))⟩) (fun x ⟨q_0, q_1⟩ => ?_)))))
 try dsimp only
 refine .block (.seq (.region (.m G G G (.v (ev_mul G G G (r := (2 * x)) G oO oO) G (.p (((2 * x) + 1)) oO oO G G G G G ?_)))))
 refine .a G G G (.go idQ (.seq (.seq (.region (.m G G G (.m G G G ?_))))))
 refine .e G G G G G (.m G G G (.w (fun _ => ev_mv G G) G (.w (fun hb => ev_cmp G (lkg G hb) G G) G ?_)))
 refine .r G G G G G (.go idQ (.condI G (bO bD bD) (fun h1 => ?_) (fun h1 => ?_)))
 ·
  refine .exit idQ ?_
  refine .seq (.region (.m G G G (.m G G G (.e G G G G G ?_))))
  refine .a G G G (.go idQ (.ret idQ (ret1 results69 G (.d (.c .h .n)) ⟨(congrArg Value.bool (decide_eq_false oO)), G⟩)))
 refine .skipgo idQ (.seq (.region (.m G G G (.a G G G (.go idQ (.seq (.seq (.region ?_))))))))
 refine .m G G G (.p ((((2 * x) + 1) + 1)) oO oO G G G G G (.a G G G (.go idQ (.seq (.region ?_)))))
 refine .m G G G (.m G G G (.e G G G G G (.m G G G ?_)))
 refine .w (fun _ => ev_mv G G) G (.w (fun _ => ev_mv G G) G (.w (fun _ => ev_mv G G) G (.cons (st_gcallki G G G G G G (fun hb => (lkg G hb)) (mth117_Less b) hbd117 (fun hb => (lkA1 G (lkA1 (lkg G hb) (lkA1 (lkg G hb) lkA0)))) (.d (.c .h .n)) (fun hb => have hp := bT bD hb; oless_ b A n c l pb m (((2 * x) + 1) + 1) ((2 * x) + 1) _ _ oO oO lO oO) ?_))))
 refine .v (ev_and G G G G) G (.go idQ (.condI G (bA bD less_iff) (fun h2 => ?_) (fun h2 => ?_)))
 ·
  refine .region (.m G G G (.a G G G (.go idQ (.seq (.seq (.region ?_))))))
  refine .m G G G (.m G G G (.m G G G (.cons (.viainv (args' := #[.const (.pointer (some ⟨b, 0, none⟩)), .tmp 36, .tmp 37]) G G (mth117_Less b) G hbd117 (st_callk G G G G hbd117 G (.d (.c .h .n)) (oless_ b A n c l pb m (((2 * x) + 1) + 1) x _ _ oO oO lO oO) ?_)))))
  refine .v (ev_not G G) G (.go idQ (.condI G (bN less_iff) (fun h3 => ?_) (fun h3 => ?_)))
  ·
   refine .exit idQ ?_
   refine .seq (.region (.m G G G (.m G G G (.e G G G G G ?_))))
   refine .a G G G (.go idQ (.ret idQ (ret1 results69 G (.d (.c .h .n)) ⟨(congrArg Value.bool (decide_eq_false oO)), G⟩)))
  refine .skipgo idQ (.seq ?_)
  subst q_0
  exact absurd (hch (((2 * i) + 1) + 1) oO oO oO) h3
 refine .skipgo idQ (.seq (.seq (.region (.m G G G (.m G G G (.m G G G ?_))))))
 refine .cons (.viainv (args' := #[.const (.pointer (some ⟨b, 0, none⟩)), .tmp 36, .tmp 37]) G G (mth117_Less b) G hbd117 (st_callk G G G G hbd117 G (.d (.c .h .n)) (oless_ b A n c l pb m ((2 * x) + 1) x _ _ oO oO lO oO) ?_))
 refine .v (ev_not G G) G (.go idQ (.condI G (bN less_iff) (fun h4 => ?_) (fun h4 => ?_)))
 ·
  refine .exit idQ ?_
  refine .seq (.region (.m G G G (.m G G G (.e G G G G G ?_))))
  refine .a G G G (.go idQ (.ret idQ (ret1 results69 G (.d (.c .h .n)) ⟨(congrArg Value.bool (decide_eq_false oO)), G⟩)))
 refine .skipgo idQ (.seq ?_)
 subst q_0
 exact absurd (hch ((2 * i) + 1) oO oO oO) h4
theorem hpush_ (b : Nat) (A : Option Addr) (n : Nat) (c : Nat) (l : List EN) (pb : Nat) (m : List (Int × Int)) (e : EN) (S : Nat → Prop) (wf : World) (hn : l.length = n) (hb : n ≤ 4200) (hq : QI l m) (he : mhas m e.ei = false) (hp : Hp l n) :
  TR0 prog 58 [.iface 117 (.pointer (some ⟨b, 0, none⟩)), .iface 115 (.agg #[.int .i64 e.ei, .int .i64 e.ek])] [cel b [.slice A n c, .map (some pb)] 113, rw_ eEN 115 (.slice A n c) l, mp keZ.f (.int .i64) pb m] S wf (fun v_ C_ => ∃ (u : Value) (l2 : List EN) (m2 : List (Int × Int)), (l2.Perm (l ++ [e])) ∧ (QI l2 m2) ∧ (Hp l2 (n + 1 : Nat)) ∧ v_ = .tuple #[] ∧ C_ = [cel b [u, .map (some pb)] 113, rw_ eEN 115 (u) l2, mp keZ.f (.int .i64) pb m2]) := by
 refine TR.mk func58 G ntmps58 G G (fun w_ => ?_)
 refine .seq (.region (.m G G G (.m G G G (.cons (.viainv (args' := #[.const (.pointer (some ⟨b, 0, none⟩)), .tmp 5]) G G (mth117_Push b) G hbd119 (st_call0 G G G G hbd119 G (.d (.c .h .n)) (opush_ b A n c l pb m e _ _ lO oO oO oO) (fun v_q3 C_q3 q3 => ?_)))))))
 obtain ⟨u1, m22, p4, rfl, rfl⟩ := q3
 show SP _ _ _ _ _ _ ⟨_, _ :: _ :: _ :: _, _, _⟩
 refine .go idQ (.region (.m G G G (.m G G G (.know (row_len 1 G) (fun hv7 => ?_)))))
 obtain ⟨A5, c6, rfl, hv7_1, hv7_2⟩ := hv7
 unfold maxLen at hv7_2
 refine .cons (.viainv (args' := #[.const (.pointer (some ⟨b, 0, none⟩))]) G G (mth117_Len b) G hbd67 (st_callk G G G G hbd67 G (.d (.c .h .n)) (olen_ b A5 ((l ++ [e]).length) c6 (l ++ [e]) pb m22 _ _ G) ?_))
 refine .v (ev_sub rfl rfl rfl (r := ((((l ++ [e]).length) : Int) - 1)) rfl oO oO) rfl (.cons (st_call0 rfl rfl rfl rfl hbd68 rfl (.d (.c .h .n)) (hup_ b A5 ((l ++ [e]).length) c6 (l ++ [e]) pb m22 ((((l ++ [e]).length) : Int) - 1) _ _ (by have h_ : (l ++ [e]).length = l.length + 1 := List.length_append; omega) rfl (by have h_ : (l ++ [e]).length = l.length + 1 := List.length_append; omega) p4 (by subst hn; have h_ := up_push (e := e) hp; rw [List.length_append, List.length_singleton]; rw [show (((l.length + 1 : Nat) : Int) - 1) = l.length from by omega]; exact h_)) (fun v_q10 C_q10 q10 => ?_)))
 obtain ⟨l28, m29, p11, p12, p13, rfl, rfl⟩ := q10
 show SP _ _ _ _ _ _ ⟨_, _ :: _ :: _ :: _, _, _⟩
 exact SP.nil (end0 results58 (.d (.c .h .n)) ⟨.slice A5 ((l ++ [e]).length) c6, l28, m29, p11, p12, (by have h_ := p13; rw [List.length_append, List.length_singleton, hn] at h_; exact h_), G, G⟩)
theorem hfix_ (b : Nat) (A : Option Addr) (n : Nat) (c : Nat) (l : List EN) (pb : Nat) (m : List (Int × Int)) (i : Int) (S : Nat → Prop) (wf : World) (hi : 0 ≤ i ∧ i < (n : Int)) (hn : l.length = n) (hb : n ≤ 5000) (hq : QI l m) (hch : ∀ k : Int, 0 < k → k < n → (k - 1) / 2 = i → ¬ ltE (gt l k) (gt l i)) (hu : UpI l n i) :
  TR0 prog 59 [.iface 117 (.pointer (some ⟨b, 0, none⟩)), .int .i64 i] [cel b [.slice A n c, .map (some pb)] 113, rw_ eEN 115 (.slice A n c) l, mp keZ.f (.int .i64) pb m] S wf (fun v_ C_ => ∃ (l2 : List EN) (m2 : List (Int × Int)), (l2.Perm l) ∧ (QI l2 m2) ∧ (Hp l2 n) ∧ v_ = .tuple #[] ∧ C_ = [cel b [.slice A n c, .map (some pb)] 113, rw_ eEN 115 (.slice A n c) l2, mp keZ.f (.int .i64) pb m2]) := by
 refine TR.mk func59 G ntmps59 G G (fun w_ => ?_)
 refine .seq (.region (.m G G G (.m G G G (.m G G G ?_))))
 refine .cons (.viainv (args' := #[.const (.pointer (some ⟨b, 0, none⟩))]) G G (mth117_Len b) G hbd67 (st_callk G G G G hbd67 G (.d (.c .h .n)) (olen_ b A n c l pb m _ _ lO) ?_))
 refine .cons (st_callk G G G G hbd69 G (.d (.c .h .n)) (hdownf_ b A n c l pb m i _ _ oO lO oO hch) ?_)
 refine .v (ev_not G G) G (.go idQ (.cond_t G (.region ?_)))
 refine .m G G G (.m G G G (.cons (st_call0 G G G G hbd68 G (.d (.c .h .n)) (hup_ b A n c l pb m i _ _ oO lO oO hq hu) (fun v_q3 C_q3 q3 => ?_))))
 obtain ⟨l21, m22, p4, p5, p6, rfl, rfl⟩ := q3
 show SP _ _ _ _ _ _ ⟨_, _ :: _ :: _ :: _, _, _⟩
 exact SP.nil (end0 results59 (.d (.c .h .n)) ⟨l21, m22, p4, p5, p6, G, G⟩)
theorem hpop_ (b : Nat) (A : Option Addr) (n : Nat) (c : Nat) (l : List EN) (pb : Nat) (m : List (Int × Int)) (S : Nat → Prop) (wf : World) (h0 : 0 < n) (hn : l.length = n) (hb : n ≤ 5000) (hq : QI l m) (hp : Hp l n) :
  TR0 prog 72 [.iface 117 (.pointer (some ⟨b, 0, none⟩))] [cel b [.slice A n c, .map (some pb)] 113, rw_ eEN 115 (.slice A n c) l, mp keZ.f (.int .i64) pb m] S wf (fun v_ C_ => ∃ (l2 : List EN) (m2 : List (Int × Int)), ((gt l 0 :: l2).Perm l) ∧ (QI l2 m2) ∧ (Hp l2 (n - 1 : Nat)) ∧ (l2.length = n - 1) ∧ v_ = .iface 115 (.agg #[.int .i64 ((gt l 0).ei), .int .i64 ((gt l 0).ek)]) ∧ C_ = [cel b [.slice A (n - 1) c, .map (some pb)] 113, rw_ eEN 115 (.slice A (n - 1) c) l2, mp keZ.f (.int .i64) pb m2]) := by
 refine TR.mk func72 G ntmps72 G G (fun w_ => ?_)
 refine .seq (.region (.a G G G (.go idQ (.seq (.region (.m G G G ?_))))))
 refine .cons (.viainv (args' := #[.const (.pointer (some ⟨b, 0, none⟩))]) G G (mth117_Len b) G hbd67 (st_callk G G G G hbd67 G (.d (.c .h .n)) (olen_ b A n c l pb m _ _ lO) ?_))
 refine .v (ev_sub G G G (r := ((n : Int) - 1)) G oO oO) G (.a G G G (.go idQ (.seq (.region (.m G G G ?_)))))
 refine .m G G G (.cons (.viainv (args' := #[.const (.pointer (some ⟨b, 0, none⟩)), .const (.int .i64 0), .tmp 8]) G G (mth117_Swap b) G hbd120 (st_call0 G G G G hbd120 G (.d (.c .h .n)) (oswap_ b A n c l pb m 0 ((n : Int) - 1) _ _ oO oO lO oO hq) (fun v_q2 C_q2 q2 => ?_))))
 obtain ⟨m21, p3, rfl, rfl⟩ := q2
 show SP _ _ _ _ _ _ ⟨_, _ :: _ :: _ :: _, _, _⟩
 refine .go idQ (.seq (.region (.m G G G (.m G G G (.cons (st_call0 G G G G hbd69 G (.d (.c .h .n)) (hdown_ b A n c (swF l 0 ((n : Int) - 1)) pb m21 ((n : Int) - 1) _ _ oO (by rw [swF_len]; exact hn) oO p3 (dn_start (by rw [show ((n : Int) - 1 + 1) = n from by omega]; exact hp) oO oO)) (fun v_q7 C_q7 q7 => ?_)))))))
 obtain ⟨r4, l25, m26, p8, p9, p10, p11, rfl, rfl⟩ := q7
 show SP _ _ _ _ _ _ ⟨_, _ :: _ :: _ :: _, _, _⟩
 refine .go idQ (.seq (.region (.m G G G (.cons (.viainv (args' := #[.const (.pointer (some ⟨b, 0, none⟩))]) G G (mth117_Pop b) G hbd118 (st_call0 G G G G hbd118 G (.d (.c .h .n)) (opop_ b A n c l25 pb m26 _ _ oO (by rw [p8.length_eq, swF_len]; exact hn) oO p9) (fun v_q13 C_q13 q13 => ?_)))))))
 obtain ⟨m212, p14, rfl, rfl⟩ := q13
 show SP _ _ _ _ _ _ ⟨_, _ :: _ :: _ :: _, _, _⟩
 refine .a G G G (.go idQ (.ret idQ (ret1 results72 G (.d (.c .h .n)) ⟨(l25.take (n - 1)), m212, (pop_perm hn h0 p8 p11).1, p14, (hp_take p10 oO), (by rw [List.length_take, p8.length_eq, swF_len, hn]; omega), (by rw [(pop_perm hn h0 p8 p11).2]), G⟩)))
end Go.Proofs.Ytpjblnmophcdmaa.Sx
set_option maxRecDepth 20000
set_option maxHeartbeats 8000000
namespace Go.Proofs.Ytpjblnmophcdmaa.Sx.FG
open Go Go.SX Go.Proofs Go.Proofs.Try FA FB FC FD FE FF
theorem fo113_0 : fo prog 113 0 = some 0 := by kernel_rfl
theorem hbd59 : hasBody prog 59 = true := by kernel_rfl
theorem hbd57 : hasBody prog 57 = true := by kernel_rfl
theorem hbd58 : hasBody prog 58 = true := by kernel_rfl
theorem hbd72 : hasBody prog 72 = true := by kernel_rfl
end Go.Proofs.Ytpjblnmophcdmaa.Sx.FG
namespace Go.Proofs.Ytpjblnmophcdmaa.Sx
open Go Go.SX Go.Proofs Go.Proofs.Try FA FB FC FD FE FF FG
theorem qlen_ (b : Nat) (A : Option Addr) (n : Nat) (c : Nat) (l : List EN) (pb : Nat) (m : List (Int × Int)) (S : Nat → Prop) (wf : World) (hn : l.length = n) :
  TR0 prog 57 [.pointer (some ⟨b, 0, none⟩)] [cel b [.slice A n c, .map (some pb)] 113, rw_ eEN 115 (.slice A n c) l, mp keZ.f (.int .i64) pb m] S wf (fun v_ C_ => v_ = .int .i64 (n : Int) ∧ C_ = [cel b [.slice A n c, .map (some pb)] 113, rw_ eEN 115 (.slice A n c) l, mp keZ.f (.int .i64) pb m]) := by
 refine TR.mk func57 G ntmps57 G G (fun w_ => ?_)
 refine .seq (.region (.a G G G (.go idQ (.seq (.seq (.region (.m G G G ?_)))))))
 refine .v (ev_bin G G G (r := .bool false) (fun _ => by kernel_rfl)) G (.go idQ (.cond_f G (.skipgo idQ (.seq (.region ?_)))))
 refine .m G G G (.v (ev_nil G G) G (.f fo113_0 0 G G G G (.cons (st_callk G G G G hbd67 G (.d (.c .h .n)) (olen_ b A n c l pb m _ _ lO) ?_))))
 refine .a G G G (.go idQ (.ret idQ (ret1 results57 G (.d (.c .h .n)) ⟨G, G⟩)))
theorem qput_ (b : Nat) (A : Option Addr) (n : Nat) (c : Nat) (l : List EN) (pb : Nat) (m : List (Int × Int)) (x : Int) (d : Int) (S : Nat → Prop) (wf : World) (hn : l.length = n) (hb : n < 4096) (hq : QQ l m) :
  TR0 prog 33 [.pointer (some ⟨b, 0, none⟩), .int .i64 x, .int .i64 d] [cel b [.slice A n c, .map (some pb)] 113, rw_ eEN 115 (.slice A n c) l, mp keZ.f (.int .i64) pb m] S wf (fun v_ C_ => ∃ (u : Value) (r : Bool) (l2 : List EN) (m2 : List (Int × Int)), (QQ l2 m2) ∧ (kq l2 = putK (kq l) x d) ∧ (r = decide (∀ k0, kq l x = some k0 → d < k0)) ∧ v_ = .bool r ∧ C_ = [cel b [u, .map (some pb)] 113, rw_ eEN 115 (u) l2, mp keZ.f (.int .i64) pb m2]) := by
 refine TR.mk func33 G ntmps33 G G (fun w_ => ?_)
 refine .seq (.region (.a G G G (.go idQ (.seq (.seq (.region (.m G G G ?_)))))))
 refine .v (ev_bin G G G (r := .bool false) (fun _ => by kernel_rfl)) G (.go idQ (.cond_f G (.skipgo idQ (.seq (.region ?_)))))
 refine .m G G G (.v (ev_nil G G) G (.f fo113_0 0 G G G G (.f fo111_1 1 G G G G ?_)))
 refine .l ty68 0 G G G G G (.m G G G (.v (ev_lkpok keZ (m := m) (x := x) (z := 0) G underlying68 zv3 G G 2 G) G (.m G G G ?_)))
 refine .x G G G G (.x G G G G (.a G G G (.a G G G ?_)))
 refine .go idQ (.seq (.block (.seq (.seq ?_))))
 rcases Bool.eq_false_or_eq_true (mhas m x) with hm | hm
 ·
  rw [hm]
  have hof := hq.qi.of x hm
  refine .region (.m G G G (.v (ev_not G G) G (.m G G G ?_)))
  refine .cons (.off G G G G G G ?_)
  refine .cons (.off G G G G G G ?_)
  refine .cons (.off G G G G G G ?_)
  refine .v (ev_pickf G G G G) G (.a G G G (.go idQ (.cond_f G ?_)))
  refine .region (.m G G G (.m G G G (.cons (.on G G G (Ev.step (ev_mv G G) G G G ?_)))))
  refine .cons (.on G G G (Ev.step (ev_mv G G) G G G ?_))
  refine .cons (.on G G G (Ev.step (ev_nil G G) G G G ?_))
  refine .cons (.on G G G (Ev.step (ev_fa G fo113_0 G (r := 0) G) G G G ?_))
  refine .cons (.on G G G (Ev.step (ev_fa G fo111_0 G (r := 0) G) G G G ?_))
  refine .cons (.on G G G (Ev.step (ev_ld1 G ty109 G (At.own1 0 G G)) G G G ?_))
  refine .cons (.on G G G (Ev.step (ev_mv G G) G G G ?_))
  refine .cons (.on G G G (Ev.step (ev_ix G underlying109 ty115 G G oO oO (row_adr (i := (mget m x 0)) 1 G oO oO)) G G G ?_))
  refine .cons (.on G G G (Ev.step (ev_fa G fo115_1 G (r := ao A + ((mget m x 0)).toNat * 2 + 1) G) G G G ?_))
  refine .cons (.on G G G (Ev.step (ev_ld1 G ty3 G (At.elem1 (row_el (E := eEN) (l := l) (i := (mget m x 0)) 1 G oO oO) 1 G)) G G G ?_))
  refine .cons (.on G G G (Ev.step (ev_cmp G G G G) G G G ?_))
  refine .v (ev_pickt G G G G) G (.a G G G (.go idQ (.condI G bD (fun h1 => ?_) (fun h1 => ?_))))
  ·
   refine .seq (.region (.a G G G (.go idQ (.ret idQ (ret1 results33 G (.d (.c .h .n)) ⟨.slice A n c, false, l, m, hq, (put_same (hq.qi.kat hm) oO).symm, (decide_eq_false (fun h_ => by have := h_ _ (hq.qi.kat hm); omega)).symm, G, G⟩)))))
  refine .seq (.region (.m G G G (.v (ev_not G G) G (.a G G G ?_))))
  refine .go idQ (.cond_f G (.skipgo idQ (.seq (.region (.m G G G ?_)))))
  refine .v (ev_nil G G) G (.f fo113_0 0 G G G G (.f fo111_0 0 G G G G (.l ty109 0 G G G G G ?_)))
  refine .m G G G (.m G G G (.v (ev_ix G underlying109 ty115 G G oO oO (row_adr (i := (mget m x 0)) 1 G oO oO)) G (.f fo115_1 (ao A + ((mget m x 0)).toNat * 2 + 1) G G G G ?_)))
  refine .cons (st_setel2 (E := eEN) (i := (mget m x 0)) (cs := [.int .i64 d]) (off := 1) (l2 := (l.set ((mget m x 0)).toNat (EN.mk ((gt l (mget m x 0)).ei) d))) (EN.mk ((gt l (mget m x 0)).ei) d) G G G ty3 G G G G G (.t .h) lO lO (Nat.le_of_ble_eq_true G) G G ?_)
  refine .go idQ (.seq ?_)
  have hs1 : (l.set (mget m x 0).toNat (EN.mk (gt l (mget m x 0)).ei d)).length = l.length := by simp
  refine .region (.m G G G (.v (ev_nil G G) G (.f fo113_0 0 G G G G ?_)))
  refine .v (ev_any (v := .iface 117 (.pointer (some ⟨b, 0, none⟩))) G kR (fun _ => by kernel_rfl)) G (.m G G G (.cons (st_call0 G G G G hbd59 G (.c (.t .h) (.d .n)) (hfix_ b A n c (l.set ((mget m x 0)).toNat (EN.mk ((gt l (mget m x 0)).ei) d)) pb m (mget m x 0) _ _ oO (by rw [hs1]; exact hn) oO (qi_key hq.qi oO G) (by have h2_ := up_key (l := l) (i := mget m x 0) (e := EN.mk (gt l (mget m x 0)).ei d) (by rw [hn]; have h_ := hq.hp; rw [hn] at h_; exact h_) oO (.inl (by show d < _; omega)); rw [hn] at h2_; exact h2_.2) (by have h2_ := up_key (l := l) (i := mget m x 0) (e := EN.mk (gt l (mget m x 0)).ei d) (by rw [hn]; have h_ := hq.hp; rw [hn] at h_; exact h_) oO (.inl (by show d < _; omega)); rw [hn] at h2_; exact h2_.1)) (fun v_q4 C_q4 q4 => ?_))))
  obtain ⟨l22, m23, p5, p6, p7, rfl, rfl⟩ := q4
  show SP _ _ _ _ _ _ ⟨_, _ :: _ :: _ :: _, _, _⟩
  refine .go idQ (.seq (.region (.a G G G (.go idQ (.ret idQ (ret1 results33 G (.d (.c .h .n)) ⟨.slice A n c, true, l22, m23, ⟨p6, by rw [p5.length_eq, hs1, hn]; exact p7⟩, (put_low hq.qi p6 hm oO p5), (decide_eq_true (fun k0 h_ => by rw [hq.qi.kat hm] at h_; injection h_ with h_; omega)).symm, G, G⟩))))))
 rw [hm]
 refine .region (.m G G G (.v (ev_not G G) G (.m G G G ?_)))
 refine .cons (.on G G G (Ev.step (ev_mv G G) G G G ?_))
 refine .cons (.on G G G (st_callk G G G G hbd57 G (.d (.c .h .n)) (qlen_ b A n c l pb m _ _ lO) ?_))
 refine .cons (.on G G G (Ev.step (ev_cmp G G G G) G G G ?_))
 refine .v (ev_pickt G G G G) G (.a G G G (.go idQ (.condI G bD (fun h8 => ?_) (fun h8 => ?_))))
 ·
  exfalso; omega
 refine .region (.m G G G (.m G G G (.cons (.off G G G G G G ?_))))
 refine .cons (.off G G G G G G ?_)
 refine .cons (.off G G G G G G ?_)
 refine .cons (.off G G G G G G ?_)
 refine .cons (.off G G G G G G ?_)
 refine .cons (.off G G G G G G ?_)
 refine .cons (.off G G G G G G ?_)
 refine .cons (.off G G G G G G ?_)
 refine .cons (.off G G G G G G ?_)
 refine .cons (.off G G G G G G ?_)
 refine .cons (.off G G G G G G ?_)
 refine .v (ev_pickf G G G G) G (.a G G G (.go idQ (.cond_f G ?_)))
 refine .seq (.region (.m G G G (.v (ev_not G G) G (.a G G G ?_))))
 refine .go idQ (.cond_t G (.seq (.region (.m G G G ?_))))
 refine .v (ev_nil G G) G (.f fo113_0 0 G G G G (.v (ev_any (v := .iface 117 (.pointer (some ⟨b, 0, none⟩))) G kR (fun _ => by kernel_rfl)) G (.m G G G ?_)))
 refine .m G G G (.v (ev_any (v := .agg #[.int .i64 x, .int .i64 d]) G kR (fun _ => by kernel_rfl)) G (.v (ev_any (v := .iface 115 (.agg #[.int .i64 x, .int .i64 d])) G kR (fun _ => by kernel_rfl)) G (.cons (st_call0 G G G G hbd58 G (.d (.c .h .n)) (hpush_ b A n c l pb m (EN.mk x d) _ _ lO oO hq.qi hm (by have h_ := hq.hp; rw [hn] at h_; exact h_)) (fun v_q12 C_q12 q12 => ?_)))))
 obtain ⟨u9, l210, m211, p13, p14, p15, rfl, rfl⟩ := q12
 show SP _ _ _ _ _ _ ⟨_, _ :: _ :: _ :: _, _, _⟩
 refine .go idQ (.seq (.region (.a G G G (.go idQ (.ret idQ (ret1 results33 G (.d (.c .h .n)) ⟨u9, true, l210, m211, ⟨p14, by rw [p13.length_eq]; simpa [hn] using p15⟩, (put_new hq.qi p14 hm p13), (decide_eq_true (fun k0 h_ => by have h1_ := hq.qi.has (x := x); rw [hm, h_] at h1_; cases h1_)).symm, G, G⟩))))))
theorem qtake_ (b : Nat) (A : Option Addr) (n : Nat) (c : Nat) (l : List EN) (pb : Nat) (m : List (Int × Int)) (S : Nat → Prop) (wf : World) (h0 : 0 < n) (hn : l.length = n) (hb : n ≤ 4096) (hq : QQ l m) :
  TR0 prog 61 [.pointer (some ⟨b, 0, none⟩)] [cel b [.slice A n c, .map (some pb)] 113, rw_ eEN 115 (.slice A n c) l, mp keZ.f (.int .i64) pb m] S wf (fun v_ C_ => ∃ (x : Int) (d : Int) (l2 : List EN) (m2 : List (Int × Int)), (leastK (kq l) x d) ∧ (kq l2 = delK (kq l) x) ∧ (QQ l2 m2) ∧ (l2.length = n - 1) ∧ v_ = .tuple #[.int .i64 x, .int .i64 d, .bool true] ∧ C_ = [cel b [.slice A (n - 1) c, .map (some pb)] 113, rw_ eEN 115 (.slice A (n - 1) c) l2, mp keZ.f (.int .i64) pb m2]) := by
 refine TR.mk func61 G ntmps61 G G (fun w_ => ?_)
 refine .seq (.region (.a G G G (.a G G G (.a G G G ?_))))
 refine .go idQ (.seq (.seq (.region (.m G G G (.cons (st_callk G G G G hbd57 G (.d (.c .h .n)) (qlen_ b A n c l pb m _ _ lO) (.e G G G G G ?_)))))))
 refine .go idQ (.condI G bE (fun h1 => ?_) (fun h1 => ?_))
 ·
  exfalso; omega
 refine .skipgo idQ (.seq (.region (.m G G G (.v (ev_nil G G) G (.f fo113_0 0 G G G G ?_)))))
 refine .v (ev_any (v := .iface 117 (.pointer (some ⟨b, 0, none⟩))) G kR (fun _ => by kernel_rfl)) G (.cons (st_call0 G G G G hbd72 G (.d (.c .h .n)) (hpop_ b A n c l pb m _ _ oO lO oO hq.qi (by have h_ := hq.hp; rw [hn] at h_; exact h_)) (fun v_q4 C_q4 q4 => ?_)))
 obtain ⟨l22, m23, p5, p6, p7, p8, rfl, rfl⟩ := q4
 show SP _ _ _ _ _ _ ⟨_, _ :: _ :: _ :: _, _, _⟩
 refine .v (ev_any (v := .agg #[.int .i64 ((gt l 0).ei), .int .i64 ((gt l 0).ek)]) G kR (fun _ => by kernel_rfl)) G (.cons (st_alloc G G G G zf115 (fun b9 => (.cons (st_storea (l' := [.int .i64 ((gt l 0).ei), .int .i64 ((gt l 0).ek)]) G G G ty115 G G G .h G G (.go idQ (.seq ?_)))))))
 refine SC.draw mo [] [] .n (fun _ _ _ => sc0) (fun wf_10 hl_10 hx_10 hR_10 => ?_)
 refine SR.z 0 G G (ev_fa G fo115_0 G (r := 0) G) ?_
 refine SR.z 1 G G (ev_ld1 G ty3 G (At.d (At.lent hR_10 0 G G))) ?_
 refine SR.z 2 G G (ev_fa G fo115_1 G (r := 1) G) ?_
 refine SR.z 3 G G (ev_ld1 G ty3 G (At.d (At.lent hR_10 0 G G))) ?_
 refine SR.z 4 G G (ev_as G G) ?_
 refine SR.z 5 G G (ev_as G G) ?_
 refine SR.z 6 G G (ev_as G G) ?_
 refine SR.fin kR hl_10 hx_10 hR_10 .n ?_
 refine SQ.go idQ ?_
 exact .ret idQ (ret3 results61 G G G (.c (.t .h) (.c (.t .h) (.c (.t .h) .n))) ⟨(gt l 0).ei, (gt l 0).ek, l22, m23, (least_root hq oO), (take_kq hq.qi p6 p5), ⟨p6, by rw [p8]; exact p7⟩, p8, G, G⟩)
end Go.Proofs.Ytpjblnmophcdmaa.Sx
