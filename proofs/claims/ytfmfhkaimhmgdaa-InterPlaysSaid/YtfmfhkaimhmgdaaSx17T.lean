import Derived.Test.YtfmfhkaimhmgdaaProg
import Derived.Test.YtfmfhkaimhmgdaaSxArgs
set_option linter.unusedVariables false
set_option linter.unusedSimpArgs false
namespace Go.Proofs.Ytfmfhkaimhmgdaa.Sx
open Go Go.SX Go.Proofs
theorem cellsOf44 : Try.prog.cellsOf 44 = 2 := by kernel_rfl
theorem cellsOf42 : Try.prog.cellsOf 42 = 1 := by kernel_rfl
theorem cellsOf3 : Try.prog.cellsOf 3 = 1 := by kernel_rfl
theorem told44 : Tells Try.prog 44 eVis (fun x => i64 x.kind ∧ i64 x.item) := by
  intro H enc w base spare held n cs y h
  obtain ⟨xs, k, _, _, hl, hx, hf⟩ := DataW.trod_struct Try.underlying44 h
  rw [cellsOf44] at hl
  match cs, hl with
  | [v0, v1], _ =>
    have h0 : DataW.trod enc Try.prog w base spare held k 42 (([v0, v1].drop 0).take (Try.prog.cellsOf 42)) = xs[0]? := hf 0 _ rfl
    have h1 : DataW.trod enc Try.prog w base spare held k 3 (([v0, v1].drop 1).take (Try.prog.cellsOf 3)) = xs[1]? := hf 1 _ rfl
    rw [List.getElem?_eq_getElem (by rw [hx]; decide)] at h0 h1
    simp only [cellsOf42, cellsOf3] at h0 h1
    obtain ⟨m0, e0, _, w0⟩ := DataW.trod_int Try.underlying42 h0
    obtain ⟨m1, e1, _, w1⟩ := DataW.trod_int Try.underlying3 h1
    simp at e0 e1
    subst e0 e1
    exact ⟨⟨m0, m1⟩, rfl, wf_i64 w0, wf_i64 w1⟩
theorem cellsOf24 : Try.prog.cellsOf 24 = 4 := by kernel_rfl
theorem told24 : Tells Try.prog 24 eMov (fun x => i64 x.c ∧ i64 x.i ∧ i64 x.j ∧ i64 x.k) := by
  intro H enc w base spare held n cs y h
  obtain ⟨xs, k, _, _, hl, hx, hf⟩ := DataW.trod_struct Try.underlying24 h
  rw [cellsOf24] at hl
  match cs, hl with
  | [v0, v1, v2, v3], _ =>
    have h0 : DataW.trod enc Try.prog w base spare held k 3 (([v0, v1, v2, v3].drop 0).take (Try.prog.cellsOf 3)) = xs[0]? := hf 0 _ rfl
    have h1 : DataW.trod enc Try.prog w base spare held k 3 (([v0, v1, v2, v3].drop 1).take (Try.prog.cellsOf 3)) = xs[1]? := hf 1 _ rfl
    have h2 : DataW.trod enc Try.prog w base spare held k 3 (([v0, v1, v2, v3].drop 2).take (Try.prog.cellsOf 3)) = xs[2]? := hf 2 _ rfl
    have h3 : DataW.trod enc Try.prog w base spare held k 3 (([v0, v1, v2, v3].drop 3).take (Try.prog.cellsOf 3)) = xs[3]? := hf 3 _ rfl
    rw [List.getElem?_eq_getElem (by rw [hx]; decide)] at h0 h1 h2 h3
    simp only [cellsOf3] at h0 h1 h2 h3
    obtain ⟨m0, e0, _, w0⟩ := DataW.trod_int Try.underlying3 h0
    obtain ⟨m1, e1, _, w1⟩ := DataW.trod_int Try.underlying3 h1
    obtain ⟨m2, e2, _, w2⟩ := DataW.trod_int Try.underlying3 h2
    obtain ⟨m3, e3, _, w3⟩ := DataW.trod_int Try.underlying3 h3
    simp at e0 e1 e2 e3
    subst e0 e1 e2 e3
    exact ⟨⟨m0, m1, m2, m3⟩, rfl, wf_i64 w0, wf_i64 w1, wf_i64 w2, wf_i64 w3⟩
end Go.Proofs.Ytfmfhkaimhmgdaa.Sx
