/- Results of which some lie in cells. -/
import Derived.Test.YthmkelkefmfmgaaSxWin
set_option linter.unusedVariables false
set_option linter.unusedSimpArgs false
set_option linter.unusedSectionVars false
namespace Go.SX
open Go Go.RowKit
section
variable {V : Env} {P : Program} {Q : Exit → Act → World → Prop} {ops : Array Oper} {N : Nat} {o : Oper} {rest : List Oper} {L : List (Nat × Value)} {H R C : List Res} {S : Nat → Prop} {wf : World} {K : St → Prop} {st : St}

def resF (tmps : Array Value) : ResultVar → Sem Value
  | .tmp t => pure (tmps.getD t undef)
  | .cell t ty => do loadVar ty (← asAddr (tmps.getD t undef))
theorem results_resF (fn : Func) (tmps : Array Value) : results fn tmps = (do let vs ← fn.results.mapM (resF tmps); pure (if h : vs.size = 1 then vs[0] else .tuple vs)) := by
  unfold results
  congr 1
/-- What a result's variable holds. -/
def RV (P : Program) (L : List (Nat × Value)) (D : World → Prop) (r : ResultVar) (v : Value) : Prop := ∀ a w N, SL N L a → D w → (resF a.tmps r).run P w = .ok v w
theorem RV.t {D : World → Prop} {t : Nat} {v : Value} (h : lkp L t = some v) : RV P L D (.tmp t) v := fun a w N hs hw => by
  show (pure (a.tmps.getD t undef) : Sem Value).run P w = _
  rw [hs.2.2 t v h]; rfl
theorem RV.c {t b : Nat} {ty : TypeId} {l : List Value} {e : TypeId} (k : Nat) (h : lkp L t = some (.pointer (some ⟨b, 0, none⟩))) (hk : H[k]? = some (cel b l e)) (ht : SX.ty P ty = some (true, l.length)) : RV P L (WW V S wf H) (.cell t ty) (.agg l.toArray) := fun a w N hs hw => by
  show (do loadVar ty (← asAddr (a.tmps.getD t undef)) : Sem Value).run P w = _
  rw [hs.2.2 t _ h]
  show (loadVar ty ⟨b, 0, none⟩).run P w = _
  exact run_load_at ht (.inl rfl) (At.whole k hk w hw)
theorem retv2 {fn : Func} {r s : ResultVar} {v v' : Value} {post : Value → List Res → Prop} (hr : fn.results = #[r, s]) (h1 : RV P L (WW V S wf H) r v) (h2 : RV P L (WW V S wf H) s v') (hp : PickL H C R) (h : post (.tuple #[v, v']) C) :
    SQ V (bodyPost P fn (TRp V S wf fun v C' S' wf' => post v C' ∧ S' = S ∧ wf' = wf) .ret) N ⟨L, H, S, wf⟩ := fun a w hs hw => by
  refine ⟨hs.2.1, .tuple #[v, v'], ?_, .tuple #[v, v'], C, S, wf, rfl, ⟨h, rfl, rfl⟩, .of_fz hw, hw.keep hp⟩
  have e1 := h1 a w N hs hw
  have e2 := h2 a w N hs hw
  rw [results_resF, hr]
  simp [e1, e2]
theorem retv3 {fn : Func} {r s t : ResultVar} {v v' v'' : Value} {post : Value → List Res → Prop} (hr : fn.results = #[r, s, t]) (h1 : RV P L (WW V S wf H) r v) (h2 : RV P L (WW V S wf H) s v') (h3 : RV P L (WW V S wf H) t v'') (hp : PickL H C R) (h : post (.tuple #[v, v', v'']) C) :
    SQ V (bodyPost P fn (TRp V S wf fun v C' S' wf' => post v C' ∧ S' = S ∧ wf' = wf) .ret) N ⟨L, H, S, wf⟩ := fun a w hs hw => by
  refine ⟨hs.2.1, .tuple #[v, v', v''], ?_, .tuple #[v, v', v''], C, S, wf, rfl, ⟨h, rfl, rfl⟩, .of_fz hw, hw.keep hp⟩
  have e1 := h1 a w N hs hw
  have e2 := h2 a w N hs hw
  have e3 := h3 a w N hs hw
  rw [results_resF, hr]
  simp [e1, e2, e3]
end
end Go.SX
