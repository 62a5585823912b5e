/- A tree tells the same, whatever the places of the lists. -/
import Derived.Test.YthmkelkefmfmgaaSxOwnNest
set_option linter.unusedVariables false
set_option linter.unusedSimpArgs false
namespace Go.SX
open Go Go.RowKit
theorem stepsF_sv (k : Int) : ∀ (l : List ST) (x : List TN × List Int), stepsF k l x = stepsF k (l.map sv) x
  | [], x => rfl
  | s :: r, x => by
    show stepsF k r _ = stepsF k (r.map sv) _
    rw [stepsF_sv k r]; rfl
theorem planF_pv (k : Int) (p : PV) : planF k p = planF k (pv p) := by
  unfold planF
  rw [show stepsF (k + 6) p.steps ([], []) = stepsF (k + 6) (pv p).steps ([], []) from stepsF_sv _ _ _]
  rfl
theorem plansF_pv (k : Int) : ∀ (l : List PV) (x : List TN × List Int), plansF k l x = plansF k (l.map pv) x
  | [], x => rfl
  | p :: r, x => by
    show plansF k r _ = plansF k (r.map pv) _
    rw [plansF_pv k r, ← planF_pv]
theorem okT_pv {op : Bool} {su : SU} {a b : List PV} {lf : List TK} (h : a.map pv = b.map pv) : okT op su a lf = okT op su b lf := by
  have e : okP a = okP b := by unfold okP; rw [plansF_pv, h, ← plansF_pv]
  unfold okT okK
  rw [e]
theorem map_mem {α β : Type} {f : α → β} {a b : List α} (h : a.map f = b.map f) {p : α} (hp : p ∈ a) : ∃ q ∈ b, f p = f q := by
  have h1 : f p ∈ b.map f := h ▸ List.mem_map_of_mem hp
  obtain ⟨q, hq, e⟩ := List.mem_map.1 h1
  exact ⟨q, hq, e.symm⟩
def bP (p : PV) : Prop := p.steps.length ≤ 60 ∧ ∀ s ∈ p.steps, (-9223372036854775808 < s.kind ∧ s.kind ≤ 9223372036854775807) ∧ s.load.length ≤ 10
theorem bP_pv {p q : PV} (h : pv p = pv q) (hq : bP q) : bP p := by
  have e : p.steps.map sv = q.steps.map sv := congrArg PV.steps h
  have el : p.steps.length = q.steps.length := by have := congrArg List.length e; simpa using this
  refine ⟨by rw [el]; exact hq.1, fun s hs => ?_⟩
  obtain ⟨t, ht, e2⟩ := map_mem e hs
  have hk : s.kind = t.kind := show (sv s).kind = (sv t).kind by rw [e2]
  have hl : s.load = t.load := show (sv s).load = (sv t).load by rw [e2]
  rw [hk, hl]; exact hq.2 t ht
theorem bPs_pv {a b : List PV} (h : a.map pv = b.map pv) (hb : ∀ p ∈ b, bP p) : ∀ p ∈ a, bP p := fun p hp => by
  obtain ⟨q, hq, e⟩ := map_mem h hp
  exact bP_pv e (hb q hq)
end Go.SX
