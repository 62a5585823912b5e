import Derived.Test.YthmkelkefmfmgaaProg
import Derived.Test.YthmkelkefmfmgaaSxArgs
set_option linter.unusedVariables false
set_option linter.unusedSimpArgs false
set_option maxRecDepth 20000
namespace Go.Proofs.Ythmkelkefmfmgaa.Sx
open Go Go.SX Go.Proofs
/-- A fault, as an argument. -/
structure Flt where
  cd : Int
  at_ : Int
  path : ByteArray
def eFlt : Enc Flt where
  sz := 3
  enc x := [.int .i64 x.cd, .int .i64 x.at_, .string x.path]
  len _ := rfl
  one x u hu := by simp at hu; rcases hu with rfl | rfl | rfl <;> rfl
  pos := by decide
theorem cellsOf24 : Try.prog.cellsOf 24 = 3 := by kernel_rfl
theorem cellsOf22 : Try.prog.cellsOf 22 = 1 := by kernel_rfl
theorem cellsOf3 : Try.prog.cellsOf 3 = 1 := by kernel_rfl
theorem cellsOf9 : Try.prog.cellsOf 9 = 1 := by kernel_rfl
theorem told24 : Tells Try.prog 24 eFlt (fun x => i64 x.cd ∧ i64 x.at_) := by
  intro H enc w base spare held n cs y h
  obtain ⟨xs, k, _, _, hl, hx, hf⟩ := DataW.trod_struct Try.underlying24 h
  rw [cellsOf24] at hl
  match cs, hl with
  | [v0, v1, v2], _ =>
    have h0 : DataW.trod enc Try.prog w base spare held k 22 (([v0, v1, v2].drop 0).take (Try.prog.cellsOf 22)) = xs[0]? := hf 0 _ rfl
    have h1 : DataW.trod enc Try.prog w base spare held k 3 (([v0, v1, v2].drop 1).take (Try.prog.cellsOf 3)) = xs[1]? := hf 1 _ rfl
    have h2 : DataW.trod enc Try.prog w base spare held k 9 (([v0, v1, v2].drop 2).take (Try.prog.cellsOf 9)) = xs[2]? := hf 2 _ rfl
    rw [List.getElem?_eq_getElem (by rw [hx]; decide)] at h0 h1 h2
    simp only [cellsOf22, cellsOf3, cellsOf9] at h0 h1 h2
    obtain ⟨m0, e0, _, w0⟩ := DataW.trod_int Try.underlying22 h0
    obtain ⟨m1, e1, _, w1⟩ := DataW.trod_int Try.underlying3 h1
    obtain ⟨m2, e2, _, w2⟩ := DataW.trod_string Try.underlying9 h2
    simp at e0 e1 e2
    subst e0 e1 e2
    exact ⟨⟨m0, m1, m2⟩, rfl, wf_i64 w0, wf_i64 w1⟩
end Go.Proofs.Ythmkelkefmfmgaa.Sx
