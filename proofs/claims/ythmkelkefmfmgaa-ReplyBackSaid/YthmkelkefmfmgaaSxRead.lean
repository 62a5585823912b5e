/- Trees of values, read back: places, parts, words. -/
import Derived.Test.YthmkelkefmfmgaaSxReply
import Derived.Test.YthmkelkefmfmgaaSxFun
import Derived.Test.YthmkelkefmfmgaaSxRes
set_option linter.unusedVariables false
set_option linter.unusedSimpArgs false
namespace Go.SX
open Go Go.RowKit
/-- Parts of one tree, by their places. -/
def ePt (A : Option Addr) (n c : Nat) : Enc Int where
  sz := 2
  enc i := [.slice A n c, .int .i64 i]
  len _ := rfl
  one x u hu := by simp at hu; rcases hu with rfl | rfl <;> rfl
  pos := by decide
/-- A value's k-th kid: its place. -/
def kidT (l : List TV) (i k : Int) : Int := gt (gt l i).v.ks k
/-- It is there, and stands ahead of it. -/
def kidOk (l : List TV) (i k : Int) : Prop := 0 ≤ k ∧ k < (gt l i).v.ks.length ∧ 0 ≤ kidT l i k ∧ kidT l i k < i
theorem bl_inj {s t : ByteArray} (h : s.toList = t.toList) : s = t := by
  rw [ByteArray.toList_eq, ByteArray.toList_eq] at h
  exact bs_inj (by unfold bs; rw [h])
theorem beq_take {α : Type} [Inhabited α] {a b : List α} {i : Int} (h : a.take i.toNat = b.take i.toNat) (h0 : 0 ≤ i) (h1 : i < (a.length : Int)) (h2 : i < (b.length : Int)) (h3 : gt a i = gt b i) : a.take (i + 1).toNat = b.take (i + 1).toNat := by
  rw [take_gt h0 h1, take_gt h0 h2, h, h3]
theorem vs_at (l : List TV) (i : Int) : gt (vs l) i = (gt l i).v := by
  unfold gt vs
  rw [List.getD_eq_getElem?_getD, List.getD_eq_getElem?_getD, List.getElem?_map]
  cases l[i.toNat]? <;> rfl
theorem tn_dec {k k2 n n2 : Int} {b b2 : Bool} {s s2 : ByteArray} {ns ns2 : List ByteArray} {ks ks2 : List Int} :
    ((((((k == k2) && (b == b2)) && (n == n2)) && (s.toList == s2.toList)) && decide (ns = ns2)) && decide (ks = ks2)) = decide (TN.mk k b n s ns ks = TN.mk k2 b2 n2 s2 ns2 ks2) := by
  have e : (s.toList == s2.toList) = decide (s = s2) := by
    rw [Bool.eq_iff_iff]; simp only [beq_iff_eq, decide_eq_true_eq]
    exact ⟨bl_inj, fun h => by rw [h]⟩
  rw [e, Bool.eq_iff_iff]
  simp [and_assoc]
theorem tn_ext {x y : TN} (h : x.kind = y.kind ∧ x.truth = y.truth ∧ x.num = y.num ∧ x.text = y.text ∧ x.ns = y.ns ∧ x.ks = y.ks) : x = y := by
  obtain ⟨h1, h2, h3, h4, h5, h6⟩ := h
  cases x; cases y; simp_all
theorem vs_eq_step {a b : List TV} {i : Int} (h : (vs a).take i.toNat = (vs b).take i.toNat) (h0 : 0 ≤ i) (h1 : i < (a.length : Int)) (h2 : i < (b.length : Int)) (h3 : (gt a i).v = (gt b i).v) : (vs a).take (i + 1).toNat = (vs b).take (i + 1).toNat :=
  beq_take h h0 (by rw [vs_len]; exact h1) (by rw [vs_len]; exact h2) (by rw [vs_at, vs_at, h3])
theorem vs_ne {a b : List TV} {i : Int} (h3 : (gt a i).v ≠ (gt b i).v) : vs a ≠ vs b := fun e => h3 (by rw [← vs_at, ← vs_at, e])
theorem take_ne {α : Type} [Inhabited α] {a b : List α} {i : Int} (h1 : i < (a.length : Int)) (h0 : 0 ≤ i) (h3 : gt a i ≠ gt b i) : a ≠ b := fun e => h3 (by rw [e])
theorem take_all {α : Type} {a b : List α} {i : Int} (h : a.take i.toNat = b.take i.toNat) (h1 : ¬ i < (a.length : Int)) (h2 : a.length = b.length) : a = b := by
  rw [List.take_of_length_le (by omega), List.take_of_length_le (by omega)] at h; exact h
theorem none_step {α : Type} [Inhabited α] {l : List α} {s : α} {i : Int} (h : ∀ x ∈ l.take i.toNat, x ≠ s) (h0 : 0 ≤ i) (h1 : i < (l.length : Int)) (hf : gt l i ≠ s) : ∀ x ∈ l.take (i + 1).toNat, x ≠ s := by
  rw [take_gt h0 h1]
  intro x hx
  rcases List.mem_append.1 hx with hx | hx
  · exact h x hx
  · simp at hx; subst hx; exact hf
theorem all_next {α : Type} [Inhabited α] {p : α → Prop} {l : List α} {i : Int} (h : ∀ x ∈ l.take i.toNat, p x) (h0 : 0 ≤ i) (h1 : i < (l.length : Int)) (hf : p (gt l i)) : ∀ x ∈ l.take (i + 1).toNat, p x := by
  rw [take_gt h0 h1]
  intro x hx
  rcases List.mem_append.1 hx with hx | hx
  · exact h x hx
  · simp at hx; subst hx; exact hf
theorem all_end {α : Type} {p : α → Prop} {l : List α} {i : Int} (h : ∀ x ∈ l.take i.toNat, p x) (h1 : ¬ i < (l.length : Int)) : ∀ x ∈ l, p x := by
  rw [List.take_of_length_le (by omega)] at h; exact h
/-- A step, a plan, without the places of their lists. -/
def sv (s : ST) : ST := { s with lA := none, lc := 0 }
def pv (p : PV) : PV := { p with steps := p.steps.map sv, sA := none, sc := 0 }
theorem gt_map {α β : Type} [Inhabited α] [Inhabited β] (f : α → β) {l : List α} {i : Int} (h0 : 0 ≤ i) (h1 : i < (l.length : Int)) : gt (l.map f) i = f (gt l i) := by
  have hi : i.toNat < l.length := by omega
  simp [gt, List.getD_eq_getElem?_getD, hi]
theorem sv_gt {a b : List ST} (h : a.map sv = b.map sv) {i : Int} (h0 : 0 ≤ i) (h1 : i < (a.length : Int)) :
    (gt a i).kind = (gt b i).kind ∧ (gt a i).item = (gt b i).item ∧ (gt a i).place = (gt b i).place ∧ (gt a i).arr = (gt b i).arr ∧ (gt a i).wait = (gt b i).wait ∧ (gt a i).serv = (gt b i).serv ∧ (gt a i).load = (gt b i).load ∧ (gt a i).time = (gt b i).time ∧ (gt a i).dist = (gt b i).dist := by
  have hl : a.length = b.length := by have := congrArg List.length h; simpa using this
  have e : sv (gt a i) = sv (gt b i) := by rw [← gt_map sv h0 h1, h, gt_map sv h0 (by omega)]
  simp only [sv, ST.mk.injEq] at e
  obtain ⟨h1, h2, h3, h4, h5, h6, h7, h8, h9, _⟩ := e
  exact ⟨h1, h2, h3, h4, h5, h6, h7, h8, h9⟩
theorem pv_gt {a b : List PV} (h : a.map pv = b.map pv) {i : Int} (h0 : 0 ≤ i) (h1 : i < (a.length : Int)) :
    ((gt a i).veh = (gt b i).veh ∧ (gt a i).time = (gt b i).time ∧ (gt a i).dist = (gt b i).dist ∧ (gt a i).wait = (gt b i).wait ∧ (gt a i).serv = (gt b i).serv ∧ (gt a i).cost = (gt b i).cost) ∧ (gt a i).steps.map sv = (gt b i).steps.map sv := by
  have hl : a.length = b.length := by have := congrArg List.length h; simpa using this
  have e : pv (gt a i) = pv (gt b i) := by rw [← gt_map pv h0 h1, h, gt_map pv h0 (by omega)]
  simp only [pv, PV.mk.injEq] at e
  obtain ⟨h1, h2, h3, h4, h5, h6, h7, _⟩ := e
  exact ⟨⟨h1, h3, h4, h5, h6, h7⟩, h2⟩
section
variable {V : Env} {P : Program} {Q : Exit → Act → World → Prop} {N : Nat} {L : List (Nat × Value)} {H R C : List Res} {S : Nat → Prop} {wf : World}
theorem retv1 {fn : Func} {r : ResultVar} {v : Value} {post : Value → List Res → Prop} (hr : fn.results = #[r]) (h1 : RV P L (WW V S wf H) r v) (hp : PickL H C R) (h : post v C) :
    SQ V (bodyPost P fn (TRp V S wf fun v C' S' wf' => post v C' ∧ S' = S ∧ wf' = wf) .ret) N ⟨L, H, S, wf⟩ := fun a w hs hw => by
  refine ⟨hs.2.1, v, ?_, v, C, S, wf, rfl, ⟨h, rfl, rfl⟩, .of_fz hw, hw.keep hp⟩
  have e1 := h1 a w N hs hw
  rw [results_resF, hr]
  simp [e1]
end
end Go.SX
