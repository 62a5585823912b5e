/- A region whose order is open. -/
import Derived.Test.YthmkelkefmfmgaaSxCall
set_option linter.unusedVariables false
set_option linter.unusedSimpArgs false
namespace Go.SX
open Go Go.RowKit

/-- What stands: B always, and each of cs until its number comes up. -/
def TT (B : World → Prop) (cs : List (Nat × (World → Prop))) (listed : Array Bool) (w : World) : Prop := B w ∧ ∀ c ∈ cs, listed.getD c.1 true = false → c.2 w

/-- Whatever comes up next; what stands behind each. -/
def wpAnyJ (P : Program) (ops : Array Oper) (Q : Exit → Act → World → Prop) (T : Array Bool → World → Prop) : Nat → Array Bool → Act → World → Prop
  | 0, listed, a, w => Region.ready .any ops listed = [] ∧ Q .normal a w
  | fuel + 1, listed, a, w =>
    (Region.ready .any ops listed = [] → Q .normal a w) ∧
    ∀ i ∈ Region.ready .any ops listed, wpOp P ops Q i (fun a' w' => T (listed.setIfInBounds i true) w' ∧ wpAnyJ P ops Q T fuel (listed.setIfInBounds i true) a' w') a w

/-- What is listed waits for nothing that isn't. -/
def Closed (ops : Array Oper) (listed : Array Bool) : Prop := listed.size = ops.size ∧ ∀ k ok, ops[k]? = some ok → listed.getD k false = true → ∀ e ∈ ok.after, Region.binds .any e = true → listed.getD e.on false = true

/-- Number k waits for i. -/
def waitsFor (ops : Array Oper) (k i : Nat) : Bool := match ops[k]? with
  | some ok => ok.after.any fun e => Region.binds .any e && e.on == i
  | none => false

section
variable {P : Program} {ops : Array Oper} {Q : Exit → Act → World → Prop} {B : World → Prop} {cs : List (Nat × (World → Prop))}

theorem wpAny_of_J {T : Array Bool → World → Prop} : ∀ (fuel : Nat) (listed : Array Bool) (a : Act) (w : World), wpAnyJ P ops Q T fuel listed a w → wpAny P .any ops Q fuel listed a w
  | 0, _, _, _, h => h
  | fuel + 1, _, _, _, h => ⟨h.1, fun i hi => wpOp_mono (fun a' w' h' => wpAny_of_J fuel _ a' w' h'.2) (h.2 i hi)⟩

theorem Closed.set {listed : Array Bool} {j : Nat} (h : Closed ops listed) (hj : j ∈ Region.ready .any ops listed) : Closed ops (listed.setIfInBounds j true) := by
  obtain ⟨_, oj, hoj, hall⟩ := mem_ready.1 hj
  refine ⟨by simpa using h.1, fun k ok hk hl e he hb => getD_set_true ?_⟩
  by_cases hkj : k = j
  · subst hkj
    rw [hoj] at hk
    cases hk
    exact hall e he hb
  · rw [getD_set_ne false (Ne.symm hkj)] at hl
    exact h.2 k ok hk hl e he hb

theorem Closed.start (ops : Array Oper) : Closed ops (Array.replicate ops.size false) := by
  refine ⟨by simp, fun k ok hk hl => ?_⟩
  simp only [Array.getD_eq_getD_getElem?, Array.getElem?_replicate] at hl
  split at hl <;> simp at hl

/-- A cell that stands until k comes up stands while i, for which k waits, hasn't. -/
theorem TT.get {listed : Array Bool} {i : Nat} {w : World} (hc : Closed ops listed) (hi : listed.getD i true = false) (h : TT B cs listed w) : ∀ c ∈ cs, waitsFor ops c.1 i = true → c.2 w := by
  intro c hcs hw
  refine h.2 c hcs ?_
  unfold waitsFor at hw
  cases hk : ops[c.1]? with
  | none => rw [hk] at hw; simp at hw
  | some ok =>
    rw [hk] at hw
    have hlt : c.1 < listed.size := by rw [hc.1]; exact (Array.getElem?_eq_some_iff.1 hk).1
    obtain ⟨e, he, hb⟩ := Array.any_eq_true'.1 hw
    simp only [Bool.and_eq_true, beq_iff_eq] at hb
    cases hq : listed.getD c.1 true with
    | false => rfl
    | true =>
      have h1 : listed.getD c.1 false = true := by
        simp only [Array.getD_eq_getD_getElem?, Array.getElem?_eq_getElem hlt, Option.getD_some] at hq ⊢
        exact hq
      have h2 := hc.2 c.1 ok hk h1 e he hb.1
      rw [hb.2] at h2
      rcases Nat.lt_or_ge i listed.size with h' | h'
      · simp only [Array.getD_eq_getD_getElem?, Array.getElem?_eq_getElem h', Option.getD_some] at hi h2
        rw [hi] at h2
        cases h2
      · simp [Array.getElem?_eq_none h'] at h2

theorem TT.set {listed : Array Bool} {i : Nat} {w : World} (hi : ∀ c ∈ cs, c.1 ≠ i) : TT B cs (listed.setIfInBounds i true) w ↔ TT B cs listed w := by
  unfold TT
  refine and_congr_right fun _ => ⟨fun h c hc hl => h c hc ?_, fun h c hc hl => h c hc ?_⟩
  · rw [getD_set_ne true (Ne.symm (hi c hc))]; exact hl
  · rw [getD_set_ne true (Ne.symm (hi c hc))] at hl; exact hl

/-- An operation that only reads what stands may be taken first. -/
theorem wpAnyJ_first {i : Nat} {oi : Oper} {v : Value} (hi : ops[i]? = some oi) (hsel : ∀ (j : Nat) (o : Oper) cs b, ops[j]? = some o → o.op ≠ .select cs b)
    (hQ : ∀ c a w, Q (.panic c) (a.put oi.dst v) w → Q (.panic c) a w) (hni : ∀ c ∈ cs, c.1 ≠ i) :
    ∀ (fuel : Nat) (listed : Array Bool) (a : Act) (w : World), Closed ops listed →
      (∀ j oj, ops[j]? = some oj → j ≠ i → listed.getD j true = false → (∀ e ∈ oj.after, Region.binds .any e = true → e.on ≠ i) → oi.apart ops oj = true) →
      i ∈ Region.ready .any ops listed → YieldsIf P ops (fun w => B w ∧ ∀ c ∈ cs, waitsFor ops c.1 i = true → c.2 w) oi v a → TT B cs listed w →
      wpAnyJ P ops Q (TT B cs) fuel (listed.setIfInBounds i true) (a.put oi.dst v) w → wpAnyJ P ops Q (TT B cs) (fuel + 1) listed a w := by
  intro fuel
  induction fuel with
  | zero =>
    intro listed a w hcl _ hr hy hS H
    refine ⟨fun h => (by rw [h] at hr; cases hr), fun j hj => ?_⟩
    by_cases hji : j = i
    · subst hji
      exact hy.wpOp hi ⟨hS.1, hS.get hcl (mem_ready.1 hr).1⟩ ⟨(TT.set hni).2 hS, H⟩
    · have := ready_mono hj hji
      rw [H.1] at this
      cases this
  | succ fuel ih =>
    intro listed a w hcl hfree hr hy hS H
    refine ⟨fun h => (by rw [h] at hr; cases hr), fun j hj => ?_⟩
    by_cases hji : j = i
    · subst hji
      exact hy.wpOp hi ⟨hS.1, hS.get hcl (mem_ready.1 hr).1⟩ ⟨(TT.set hni).2 hS, H⟩
    · have h1 := H.2 j (ready_mono hj hji)
      obtain ⟨hjun, oj, hoj, hall⟩ := mem_ready.1 hj
      have hnot : ∀ e ∈ oj.after, Region.binds .any e = true → e.on ≠ i := fun e he hb heq => by
        have h1 := hall e he hb
        have h0 := (mem_ready.1 hr).1
        rw [heq] at h1
        rcases Nat.lt_or_ge i listed.size with h' | h'
        · simp [h'] at h0 h1; rw [h0] at h1; cases h1
        · simp [Array.getElem?_eq_none h'] at h1
      have h2 := wpOp_putIf hoj (hfree j oj hoj hji hjun hnot) (fun cs b => hsel i oi cs b hi) (fun cs b => hsel j oj cs b hoj) hQ hy h1
      have hfree' : ∀ k ok, ops[k]? = some ok → k ≠ i → (listed.setIfInBounds j true).getD k true = false →
          (∀ e ∈ ok.after, Region.binds .any e = true → e.on ≠ i) → oi.apart ops ok = true := fun k ok hk hki hun hno => by
        refine hfree k ok hk hki ?_ hno
        by_cases hjk : j = k
        · subst hjk; exact hjun
        · rw [getD_set_ne true hjk] at hun; exact hun
      refine wpOp_mono (fun a' w' h3 => ?_) h2
      have h4 := h3.2.1
      rw [Array.setIfInBounds_comm _ _ (Ne.symm hji)] at h4
      have h5 := (TT.set hni).1 h4
      refine ⟨h5, ih (listed.setIfInBounds j true) a' w' (hcl.set hj) hfree' (ready_mono hr (Ne.symm hji)) h3.1 h5 ?_⟩
      rw [Array.setIfInBounds_comm _ _ hji]
      exact h3.2.2

end

/-- Owned parts that are frozen for the while of a region. -/
structure Lent (V : Env) (S : Nat → Prop) (R : List Res) : Prop where
  nd : (feet R).Nodup
  sep : ∀ b ∈ feet R, ¬ S b ∧ (V.M b ∨ V.E.heap.size ≤ b)

/-- A region of open order on its way: what is listed, what stands. -/
def SR (V : Env) (P : Program) (Q : Exit → Act → World → Prop) (ops : Array Oper) (N : Nat) (B : World → Prop) (cs : List (Nat × (World → Prop))) (fuel : Nat) (listed : Array Bool) (st : St) : Prop :=
  ∀ a w, SL N st.L a → WW V st.S st.wf st.H w → TT B cs listed w → Closed ops listed → wpAnyJ P ops Q (TT B cs) fuel listed a w

section
variable {V : Env} {P : Program} {Q : Exit → Act → World → Prop} {ops : Array Oper} {N : Nat} {o : Oper} {rest : List Oper} {L : List (Nat × Value)} {H R C R1 : List Res} {S : Nat → Prop} {wf : World} {K : St → Prop} {st : St}
  {B : World → Prop} {cs : List (Nat × (World → Prop))} {fuel : Nat} {listed : Array Bool}

theorem WW.lent {w : World} (h : WW V S wf (C ++ R) w) : Lent V S R ∧ Ext S wf (fun b => S b ∨ b ∈ feet R) w ∧ (∀ r ∈ R, r.holds w) ∧ WW V (fun b => S b ∨ b ∈ feet R) w C w := by
  have hn := h.nd
  rw [feet_append] at hn
  obtain ⟨h1, h2, h3⟩ := List.nodup_append.1 hn
  have hs := fun b (hb : b ∈ feet R) => h.sep b (by rw [feet_append]; exact List.mem_append_right _ hb)
  refine ⟨⟨h2, hs⟩, fun b hb => ⟨.inl hb, (h.fz b hb).1, (h.fz b hb).2⟩, fun r hr => h.has r (List.mem_append_right _ hr), ?_⟩
  exact {
    has := fun r hr => h.has r (List.mem_append_left _ hr)
    nd := h1
    sep := fun b hb => ⟨fun hsb => hsb.elim (h.sep b (by rw [feet_append]; exact List.mem_append_left _ hb)).1 (fun hr => h3 b hb b hr rfl), (h.sep b (by rw [feet_append]; exact List.mem_append_left _ hb)).2⟩
    fz := fun b hb => ⟨hb.elim (fun hb => h.fz.lt hb) (fun hb => h.lt b (by rw [feet_append]; exact List.mem_append_right _ hb)), rfl⟩
    new := fun b hb => hb.elim (h.new b) (fun hb => .inr (hs b hb).2)
    fr := h.fr, sz := h.sz, os := h.os, tape := h.tape, output := h.output }

theorem WW.back {w wf1 : World} {C' : List Res} (hl : Lent V S R) (hx : Ext S wf (fun b => S b ∨ b ∈ feet R) wf1) (hr : ∀ r ∈ R, r.holds wf1) (h : WW V (fun b => S b ∨ b ∈ feet R) wf1 C' w) : WW V S wf (C' ++ R) w where
  has r hm := by
    rcases List.mem_append.1 hm with hm | hm
    · exact h.has r hm
    · exact r.stable wf1 w (fun b hb => (h.fz b (.inr (mem_feet.2 ⟨r, hm, hb⟩))).2) (hr r hm)
  nd := by
    rw [feet_append]
    exact List.nodup_append.2 ⟨h.nd, hl.nd, fun a ha b hb e => (h.sep a ha).1 (.inr (e ▸ hb))⟩
  sep b hb := by
    rw [feet_append] at hb
    rcases List.mem_append.1 hb with hb | hb
    · exact ⟨fun hs => (h.sep b hb).1 (.inl hs), (h.sep b hb).2⟩
    · exact hl.sep b hb
  fz b hb := by
    obtain ⟨h1, h2, h3⟩ := hx b hb
    exact ⟨h2, ((h.fz b h1).2).trans h3⟩
  new b hb := h.new b (.inl hb)
  fr := h.fr
  sz := h.sz
  os := h.os
  tape := h.tape
  output := h.output

/-- The beginning: C stays owned, R is frozen for the while. -/
theorem SC.draw {id : Nat} (hm : P.follows .mixedOrders = true) (C : List Res) (cs : List (Nat × (World → Prop))) (hp : PickL H C R)
    (hc : ∀ w wf1, WW V (fun b => S b ∨ b ∈ feet R) wf1 C w → ∀ c ∈ cs, c.2 w)
    (k : ∀ wf1, Lent V S R → Ext S wf (fun b => S b ∨ b ∈ feet R) wf1 → (∀ r ∈ R, r.holds wf1) →
      SR V P Q ops N (Fz (fun b => S b ∨ b ∈ feet R) wf1) cs ops.size (Array.replicate ops.size false) ⟨L, C, fun b => S b ∨ b ∈ feet R, wf1⟩) : SC V P Q N (.region id ops true) ⟨L, H, S, wf⟩ := by
  intro a w hs hw
  obtain ⟨h1, h2, h3, h4⟩ := ((hw.perm hp.perm).drew).lent
  exact wp_region_any hm (wpAny_of_J _ _ _ _ (k _ h1 h2 h3 a _ hs h4 ⟨h4.fz, fun c hcs _ => hc _ _ h4 c hcs⟩ (Closed.start ops)))

/-- An operation that only reads is taken first. -/
theorem SR.take {v : Value} {d : Nat} (i : Nat) (hi : ops[i]? = some o) (hs : Region.noSelect ops = true) (hf : Region.free .any ops listed i = true) (hr : (Region.ready .any ops listed).contains i = true)
    (hni : (cs.map (·.1)).contains i = false) (hQ : ∀ c a w, Q (.panic c) (a.put o.dst v) w → Q (.panic c) a w) (hg : o.guard = none) (hd : o.dst = some d) (hdN : Nat.blt d N = true)
    (h : Ev P (fun w => B w ∧ ∀ c ∈ cs, waitsFor ops c.1 i = true → c.2 w) L o v)
    (k : SR V P Q ops N B cs fuel (listed.setIfInBounds i true) ⟨(d, v) :: L, H, S, wf⟩) : SR V P Q ops N B cs (fuel + 1) listed ⟨L, H, S, wf⟩ := by
  intro a w hsl hw hT hcl
  have hr' : i ∈ Region.ready .any ops listed := by simpa using hr
  have hni' : ∀ c ∈ cs, c.1 ≠ i := fun c hc e => by
    have : (cs.map (·.1)).contains i = true := by simp; exact ⟨c.2, by rw [← e]; exact hc⟩
    rw [this] at hni
    cases hni
  refine wpAnyJ_first hi (Region.noSelect_spec hs) hQ hni' fuel listed a w hcl (Region.free_spec hi hf) hr' (.inl ⟨by simp [Region.wanted, hg], fun w' hw' => ?_⟩) hT ?_
  · rw [exec_ev hsl h.1 h.2.1]
    exact h.2.2 w' hw'
  · rw [hd]
    exact k _ _ (hsl.put hdN v) hw ((TT.set hni').2 hT) (hcl.set hr')

/-- The same under a guard. -/
theorem SR.gtake {v : Value} {d g t : Nat} {want b : Bool} (i : Nat) (hi : ops[i]? = some o) (hs : Region.noSelect ops = true) (hf : Region.free .any ops listed i = true) (hr : (Region.ready .any ops listed).contains i = true)
    (hni : (cs.map (·.1)).contains i = false) (hQ : ∀ c a w v, Q (.panic c) (a.put o.dst v) w → Q (.panic c) a w) (hg : o.guard = some (g, want)) (ht : (ops[g]?).bind (·.dst) = some t) (hL : lkp L t = some (.bool b)) (hd : o.dst = some d) (hdN : Nat.blt d N = true)
    (h : b = want → Ev P (fun w => B w ∧ ∀ c ∈ cs, waitsFor ops c.1 i = true → c.2 w) L o v)
    (k : SR V P Q ops N B cs fuel (listed.setIfInBounds i true) ⟨(d, gv b want v) :: L, H, S, wf⟩) : SR V P Q ops N B cs (fuel + 1) listed ⟨L, H, S, wf⟩ := by
  intro a w hsl hw hT hcl
  have hr' : i ∈ Region.ready .any ops listed := by simpa using hr
  have hni' : ∀ c ∈ cs, c.1 ≠ i := fun c hc e => by
    have : (cs.map (·.1)).contains i = true := by simp; exact ⟨c.2, by rw [← e]; exact hc⟩
    rw [this] at hni
    cases hni
  have hy := yielded_of hsl ht hL
  refine wpAnyJ_first (v := gv b want v) hi (Region.noSelect_spec hs) (fun c a w h => hQ c a w _ h) hni' fuel listed a w hcl (Region.free_spec hi hf) hr' ?_ hT ?_
  · by_cases hb : b = want
    · refine .inl ⟨by simp [Region.wanted, hg, hy, hb], fun w' hw' => ?_⟩
      rw [exec_ev hsl (h hb).1 (h hb).2.1, show gv b want v = v from if_pos hb]
      exact (h hb).2.2 w' hw'
    · exact .inr ⟨by simp [Region.wanted, hg, hy, hb], if_neg hb⟩
  · rw [hd]
    exact k _ _ (hsl.put hdN _) hw ((TT.set hni').2 hT) (hcl.set hr')

/-- One step of an operation that may come up. -/
def SR1 (V : Env) (P : Program) (Q : Exit → Act → World → Prop) (ops : Array Oper) (N : Nat) (B : World → Prop) (cs : List (Nat × (World → Prop))) (fuel : Nat) (listed : Array Bool) (st : St) (j : Nat) : Prop :=
  ∃ o, ops[j]? = some o ∧ OpStep V P Q ops N o st fun st' => (∀ w, WW V st'.S st'.wf st'.H w → TT B cs (listed.setIfInBounds j true) w) ∧ SR V P Q ops N B cs fuel (listed.setIfInBounds j true) st'

theorem SR.branch {rs : List Nat} (hr : Region.ready .any ops listed = rs) (hne : rs ≠ []) (h : ∀ j ∈ rs, SR1 V P Q ops N B cs fuel listed st j) : SR V P Q ops N B cs (fuel + 1) listed st := by
  intro a w hs hw hT hcl
  refine ⟨fun h0 => absurd (hr ▸ h0) hne, fun j hj => ?_⟩
  obtain ⟨o, ho, hst⟩ := h j (hr ▸ hj)
  have := hst a w hs hw (fun a' w' => TT B cs (listed.setIfInBounds j true) w' ∧ wpAnyJ P ops Q (TT B cs) fuel (listed.setIfInBounds j true) a' w')
    (fun st' k a' w' h1 h2 => ⟨k.1 w' h2, k.2 a' w' h1 h2 (k.1 w' h2) (hcl.set hj)⟩)
  unfold Step1 at this
  unfold wpOp
  rw [ho]
  exact this

/-- The one that may come up. -/
theorem SR.one {j : Nat} (hr : Region.ready .any ops listed = [j]) (ho : ops[j]? = some o)
    (h : OpStep V P Q ops N o st fun st' => (∀ w, WW V st'.S st'.wf st'.H w → TT B cs (listed.setIfInBounds j true) w) ∧ SR V P Q ops N B cs fuel (listed.setIfInBounds j true) st') : SR V P Q ops N B cs (fuel + 1) listed st :=
  .branch hr (by simp) fun i hi => by simp at hi; subst hi; exact ⟨o, ho, h⟩
theorem SR.two {i j : Nat} (hr : Region.ready .any ops listed = [i, j]) (h1 : SR1 V P Q ops N B cs fuel listed st i) (h2 : SR1 V P Q ops N B cs fuel listed st j) : SR V P Q ops N B cs (fuel + 1) listed st :=
  .branch hr (by simp) fun k hk => by simp at hk; rcases hk with rfl | rfl <;> assumption

/-- What is frozen stands. -/
theorem tt0 {S1 : Nat → Prop} {wf1 : World} {l : Array Bool} : ∀ w, WW V S1 wf1 H w → TT (Fz S1 wf1) [] l w := fun w hw => ⟨hw.fz, fun c hc => by cases hc⟩

/-- The end: what was frozen for the while is owned again. -/
theorem SR.done {wf1 : World} {C' : List Res} (hr : Region.ready .any ops listed = []) (hl : Lent V S R) (hx : Ext S wf (fun b => S b ∨ b ∈ feet R) wf1) (hR : ∀ r ∈ R, r.holds wf1)
    (h : SQ V (Q .normal) N ⟨L, C' ++ R, S, wf⟩) : SR V P Q ops N B cs fuel listed ⟨L, C', fun b => S b ∨ b ∈ feet R, wf1⟩ := by
  intro a w hs hw hT hcl
  have hq : Q .normal a w := h a w hs (WW.back hl hx hR hw)
  cases fuel with
  | zero => exact ⟨hr, hq⟩
  | succ n => exact ⟨fun _ => hq, by rw [hr]; simp⟩

end
end Go.SX
