/- The tree of a fault, and its text. -/
import Derived.Test.YthmkelkefmfmgaaSxShow
set_option linter.unusedVariables false
set_option linter.unusedSimpArgs false
set_option linter.unusedSectionVars false
namespace Go.SX
open Go Go.RowKit
section
variable {V : Env} {P : Program} {Q : Exit → Act → World → Prop} {ops : Array Oper} {N : Nat} {o : Oper} {rest : List Oper} {L : List (Nat × Value)} {H R : List Res} {S : Nat → Prop} {wf : World} {K : St → Prop} {st : St}
/-- A value without lists is laid to the others. -/
theorem SC.packl {e1 e2 : Nat} {l : List TV} (v : TN) {c : Code} (hp : Pick H (nest e1 e2 l) R) (h1 : v.ns = []) (h2 : v.ks = [])
    (h : SC V P Q N c ⟨L, nest e1 e2 (l ++ [TV.mk v none 0 none 0]) :: R, S, wf⟩) : SC V P Q N c ⟨L, H, S, wf⟩ := fun a w hs hw => by
  have h3 := ((hw.perm hp.perm).nilrow eZ e2).nilrow eS e1
  refine h a w hs (WW.pack (t := TV.mk v none 0 none 0) ?_ (by rw [h1]; simp) (by rw [h2]; simp))
  have e3 : (rw_ eS e1 (nV (TV.mk v none 0 none 0)) v.ns) = rw_ eS e1 (.slice none 0 0) [] := by show rw_ eS e1 (.slice none v.ns.length 0) v.ns = _; rw [h1]; rfl
  have e4 : (rw_ eZ e2 (kV (TV.mk v none 0 none 0)) v.ks) = rw_ eZ e2 (.slice none 0 0) [] := by show rw_ eZ e2 (.slice none v.ks.length 0) v.ks = _; rw [h2]; rfl
  show WW V S wf (nest e1 e2 l :: rw_ eS e1 (nV (TV.mk v none 0 none 0)) v.ns :: rw_ eZ e2 (kV (TV.mk v none 0 none 0)) v.ks :: R) w
  rw [e3, e4]
  exact h3.perm (List.perm_middle (l₁ := [rw_ eS e1 (.slice none 0 0) [], rw_ eZ e2 (.slice none 0 0) []]) (a := nest e1 e2 l) (l₂ := R))
end
def sStatus : ByteArray := ⟨#[115, 116, 97, 116, 117, 115]⟩
def sError : ByteArray := ⟨#[101, 114, 114, 111, 114]⟩
def sCode : ByteArray := ⟨#[99, 111, 100, 101]⟩
def sAt : ByteArray := ⟨#[97, 116]⟩
def sPath : ByteArray := ⟨#[112, 97, 116, 104]⟩
def faultT (cd at_ : Int) (path : ByteArray) : List TN :=
  [⟨4, false, 0, sError, [], []⟩, ⟨3, false, cd, ⟨#[]⟩, [], []⟩, ⟨3, false, at_, ⟨#[]⟩, [], []⟩, ⟨4, false, 0, path, [], []⟩, ⟨6, false, 0, ⟨#[]⟩, [sStatus, sCode, sAt, sPath], [0, 1, 2, 3]⟩]
def fitP (n : Int) : Prop := n ≥ (-4611686018427387903) ∧ n ≤ 4611686018427387903
theorem all_step {l : List Int} {i : Int} (h : ∀ x ∈ l.take i.toNat, fitP x) (h0 : 0 ≤ i) (h1 : i < (l.length : Int)) (hf : fitP (gt l i)) : ∀ x ∈ l.take (i + 1).toNat, fitP x := by
  rw [take_gt h0 h1]
  intro x hx
  rcases List.mem_append.1 hx with hx | hx
  · exact h x hx
  · simp at hx; subst hx; exact hf
end Go.SX
