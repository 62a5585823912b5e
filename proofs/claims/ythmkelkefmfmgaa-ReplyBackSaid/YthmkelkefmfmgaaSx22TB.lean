import Derived.Test.YthmkelkefmfmgaaProg
import Derived.Test.YthmkelkefmfmgaaSxNestArg
import Derived.Test.YthmkelkefmfmgaaSxUniq
set_option linter.unusedVariables false
set_option linter.unusedSimpArgs false
set_option maxRecDepth 20000
namespace Go.Proofs.Ythmkelkefmfmgaa.Sx
open Go Go.SX Go.Proofs
theorem cO58 : Try.prog.cellsOf 58 = 9 := by kernel_rfl
theorem cO52 : Try.prog.cellsOf 52 = 7 := by kernel_rfl
theorem cO62 : Try.prog.cellsOf 62 = 2 := by kernel_rfl
theorem cO30 : Try.prog.cellsOf 30 = 14 := by kernel_rfl
theorem cO24 : Try.prog.cellsOf 24 = 3 := by kernel_rfl
theorem cO26 : Try.prog.cellsOf 26 = 8 := by kernel_rfl
theorem cO55 : Try.prog.cellsOf 55 = 2 := by kernel_rfl
theorem cO22 : Try.prog.cellsOf 22 = 1 := by kernel_rfl
theorem cO3 : Try.prog.cellsOf 3 = 1 := by kernel_rfl
theorem cO9 : Try.prog.cellsOf 9 = 1 := by kernel_rfl
theorem cO4 : Try.prog.cellsOf 4 = 1 := by kernel_rfl
theorem cO53 : Try.prog.cellsOf 53 = 1 := by kernel_rfl
theorem cO56 : Try.prog.cellsOf 56 = 1 := by kernel_rfl
theorem cO50 : Try.prog.cellsOf 50 = 1 := by kernel_rfl
theorem cO27 : Try.prog.cellsOf 27 = 1 := by kernel_rfl
theorem cO28 : Try.prog.cellsOf 28 = 1 := by kernel_rfl
def eSU : Enc SU where
  sz := 8
  enc x := [.int .i64 x.routes, .int .i64 x.value, .int .i64 x.cost, .int .i64 x.time, .int .i64 x.dist, .int .i64 x.wait, .int .i64 x.serv, .int .i64 x.left]
  len _ := rfl
  one x u hu := by simp at hu; rcases hu with rfl | rfl | rfl | rfl | rfl | rfl | rfl | rfl <;> rfl
  pos := by decide
structure Fl where
  cd : Int
  at_ : Int
  path : ByteArray
def eFl : Enc Fl where
  sz := 3
  enc x := [.int .i64 x.cd, .int .i64 x.at_, .string x.path]
  len _ := rfl
  one x u hu := by simp at hu; rcases hu with rfl | rfl | rfl <;> rfl
  pos := by decide
section
variable {w : World}
theorem tw55 : TellsW Try.prog w 55 eVis (fun _ => True) := by
  intro H enc base spare held n cs y h hw
  obtain ⟨k, hl, hf⟩ := struct_w Try.underlying55 h hw
  rw [cO55] at hl
  match cs, hl with
  | [v0, v1], _ =>
    obtain ⟨y0, h0, w0⟩ := hf 0 _ rfl
    replace h0 : DataW.trod enc Try.prog w base spare held k 53 (([v0, v1].drop 0).take (Try.prog.cellsOf 53)) = some y0 := h0
    rw [cO53] at h0
    replace h0 : DataW.trod enc Try.prog w base spare held k 53 [v0] = some y0 := h0
    obtain ⟨y1, h1, w1⟩ := hf 1 _ rfl
    replace h1 : DataW.trod enc Try.prog w base spare held k 3 (([v0, v1].drop 1).take (Try.prog.cellsOf 3)) = some y1 := h1
    rw [cO3] at h1
    replace h1 : DataW.trod enc Try.prog w base spare held k 3 [v1] = some y1 := h1
    obtain ⟨m0, e0, _, _⟩ := DataW.trod_int Try.underlying53 h0
    simp only [List.cons.injEq, and_true] at e0
    subst e0
    obtain ⟨m1, e1, _, _⟩ := DataW.trod_int Try.underlying3 h1
    simp only [List.cons.injEq, and_true] at e1
    subst e1
    exact ⟨⟨m0, m1⟩, rfl, trivial⟩
theorem tw26 : TellsW Try.prog w 26 eSU (fun _ => True) := by
  intro H enc base spare held n cs y h hw
  obtain ⟨k, hl, hf⟩ := struct_w Try.underlying26 h hw
  rw [cO26] at hl
  match cs, hl with
  | [v0, v1, v2, v3, v4, v5, v6, v7], _ =>
    obtain ⟨y0, h0, w0⟩ := hf 0 _ rfl
    replace h0 : DataW.trod enc Try.prog w base spare held k 3 (([v0, v1, v2, v3, v4, v5, v6, v7].drop 0).take (Try.prog.cellsOf 3)) = some y0 := h0
    rw [cO3] at h0
    replace h0 : DataW.trod enc Try.prog w base spare held k 3 [v0] = some y0 := h0
    obtain ⟨y1, h1, w1⟩ := hf 1 _ rfl
    replace h1 : DataW.trod enc Try.prog w base spare held k 3 (([v0, v1, v2, v3, v4, v5, v6, v7].drop 1).take (Try.prog.cellsOf 3)) = some y1 := h1
    rw [cO3] at h1
    replace h1 : DataW.trod enc Try.prog w base spare held k 3 [v1] = some y1 := h1
    obtain ⟨y2, h2, w2⟩ := hf 2 _ rfl
    replace h2 : DataW.trod enc Try.prog w base spare held k 3 (([v0, v1, v2, v3, v4, v5, v6, v7].drop 2).take (Try.prog.cellsOf 3)) = some y2 := h2
    rw [cO3] at h2
    replace h2 : DataW.trod enc Try.prog w base spare held k 3 [v2] = some y2 := h2
    obtain ⟨y3, h3, w3⟩ := hf 3 _ rfl
    replace h3 : DataW.trod enc Try.prog w base spare held k 3 (([v0, v1, v2, v3, v4, v5, v6, v7].drop 3).take (Try.prog.cellsOf 3)) = some y3 := h3
    rw [cO3] at h3
    replace h3 : DataW.trod enc Try.prog w base spare held k 3 [v3] = some y3 := h3
    obtain ⟨y4, h4, w4⟩ := hf 4 _ rfl
    replace h4 : DataW.trod enc Try.prog w base spare held k 3 (([v0, v1, v2, v3, v4, v5, v6, v7].drop 4).take (Try.prog.cellsOf 3)) = some y4 := h4
    rw [cO3] at h4
    replace h4 : DataW.trod enc Try.prog w base spare held k 3 [v4] = some y4 := h4
    obtain ⟨y5, h5, w5⟩ := hf 5 _ rfl
    replace h5 : DataW.trod enc Try.prog w base spare held k 3 (([v0, v1, v2, v3, v4, v5, v6, v7].drop 5).take (Try.prog.cellsOf 3)) = some y5 := h5
    rw [cO3] at h5
    replace h5 : DataW.trod enc Try.prog w base spare held k 3 [v5] = some y5 := h5
    obtain ⟨y6, h6, w6⟩ := hf 6 _ rfl
    replace h6 : DataW.trod enc Try.prog w base spare held k 3 (([v0, v1, v2, v3, v4, v5, v6, v7].drop 6).take (Try.prog.cellsOf 3)) = some y6 := h6
    rw [cO3] at h6
    replace h6 : DataW.trod enc Try.prog w base spare held k 3 [v6] = some y6 := h6
    obtain ⟨y7, h7, w7⟩ := hf 7 _ rfl
    replace h7 : DataW.trod enc Try.prog w base spare held k 3 (([v0, v1, v2, v3, v4, v5, v6, v7].drop 7).take (Try.prog.cellsOf 3)) = some y7 := h7
    rw [cO3] at h7
    replace h7 : DataW.trod enc Try.prog w base spare held k 3 [v7] = some y7 := h7
    obtain ⟨m0, e0, _, _⟩ := DataW.trod_int Try.underlying3 h0
    simp only [List.cons.injEq, and_true] at e0
    subst e0
    obtain ⟨m1, e1, _, _⟩ := DataW.trod_int Try.underlying3 h1
    simp only [List.cons.injEq, and_true] at e1
    subst e1
    obtain ⟨m2, e2, _, _⟩ := DataW.trod_int Try.underlying3 h2
    simp only [List.cons.injEq, and_true] at e2
    subst e2
    obtain ⟨m3, e3, _, _⟩ := DataW.trod_int Try.underlying3 h3
    simp only [List.cons.injEq, and_true] at e3
    subst e3
    obtain ⟨m4, e4, _, _⟩ := DataW.trod_int Try.underlying3 h4
    simp only [List.cons.injEq, and_true] at e4
    subst e4
    obtain ⟨m5, e5, _, _⟩ := DataW.trod_int Try.underlying3 h5
    simp only [List.cons.injEq, and_true] at e5
    subst e5
    obtain ⟨m6, e6, _, _⟩ := DataW.trod_int Try.underlying3 h6
    simp only [List.cons.injEq, and_true] at e6
    subst e6
    obtain ⟨m7, e7, _, _⟩ := DataW.trod_int Try.underlying3 h7
    simp only [List.cons.injEq, and_true] at e7
    subst e7
    exact ⟨⟨m0, m1, m2, m3, m4, m5, m6, m7⟩, rfl, trivial⟩
theorem tw24 : TellsW Try.prog w 24 eFl (fun _ => True) := by
  intro H enc base spare held n cs y h hw
  obtain ⟨k, hl, hf⟩ := struct_w Try.underlying24 h hw
  rw [cO24] at hl
  match cs, hl with
  | [v0, v1, v2], _ =>
    obtain ⟨y0, h0, w0⟩ := hf 0 _ rfl
    replace h0 : DataW.trod enc Try.prog w base spare held k 22 (([v0, v1, v2].drop 0).take (Try.prog.cellsOf 22)) = some y0 := h0
    rw [cO22] at h0
    replace h0 : DataW.trod enc Try.prog w base spare held k 22 [v0] = some y0 := h0
    obtain ⟨y1, h1, w1⟩ := hf 1 _ rfl
    replace h1 : DataW.trod enc Try.prog w base spare held k 3 (([v0, v1, v2].drop 1).take (Try.prog.cellsOf 3)) = some y1 := h1
    rw [cO3] at h1
    replace h1 : DataW.trod enc Try.prog w base spare held k 3 [v1] = some y1 := h1
    obtain ⟨y2, h2, w2⟩ := hf 2 _ rfl
    replace h2 : DataW.trod enc Try.prog w base spare held k 9 (([v0, v1, v2].drop 2).take (Try.prog.cellsOf 9)) = some y2 := h2
    rw [cO9] at h2
    replace h2 : DataW.trod enc Try.prog w base spare held k 9 [v2] = some y2 := h2
    obtain ⟨m0, e0, _, _⟩ := DataW.trod_int Try.underlying22 h0
    simp only [List.cons.injEq, and_true] at e0
    subst e0
    obtain ⟨m1, e1, _, _⟩ := DataW.trod_int Try.underlying3 h1
    simp only [List.cons.injEq, and_true] at e1
    subst e1
    obtain ⟨m2, e2, _, _⟩ := DataW.trod_string Try.underlying9 h2
    simp only [List.cons.injEq, and_true] at e2
    subst e2
    exact ⟨⟨m0, m1, m2⟩, rfl, trivial⟩
theorem tw62 : TellsW Try.prog w 62 eTK (fun _ => True) := by
  intro H enc base spare held n cs y h hw
  obtain ⟨k, hl, hf⟩ := struct_w Try.underlying62 h hw
  rw [cO62] at hl
  match cs, hl with
  | [v0, v1], _ =>
    obtain ⟨y0, h0, w0⟩ := hf 0 _ rfl
    replace h0 : DataW.trod enc Try.prog w base spare held k 4 (([v0, v1].drop 0).take (Try.prog.cellsOf 4)) = some y0 := h0
    rw [cO4] at h0
    replace h0 : DataW.trod enc Try.prog w base spare held k 4 [v0] = some y0 := h0
    obtain ⟨y1, h1, w1⟩ := hf 1 _ rfl
    replace h1 : DataW.trod enc Try.prog w base spare held k 3 (([v0, v1].drop 1).take (Try.prog.cellsOf 3)) = some y1 := h1
    rw [cO3] at h1
    replace h1 : DataW.trod enc Try.prog w base spare held k 3 [v1] = some y1 := h1
    obtain ⟨m0, e0, _⟩ := DataW.trod_bool Try.underlying4 h0
    simp only [List.cons.injEq, and_true] at e0
    subst e0
    obtain ⟨m1, e1, _, _⟩ := DataW.trod_int Try.underlying3 h1
    simp only [List.cons.injEq, and_true] at e1
    subst e1
    exact ⟨⟨m0, m1⟩, rfl, trivial⟩
theorem tw58 : TellsW Try.prog w 58 eST (fun s => Fr eZ (fun b => b < w.heap.size) w s.lA s.load) := by
  intro H enc base spare held n cs y h hw
  obtain ⟨k, hl, hf⟩ := struct_w Try.underlying58 h hw
  rw [cO58] at hl
  match cs, hl with
  | [v0, v1, v2, v3, v4, v5, v6, v7, v8], _ =>
    obtain ⟨y0, h0, w0⟩ := hf 0 _ rfl
    replace h0 : DataW.trod enc Try.prog w base spare held k 55 (([v0, v1, v2, v3, v4, v5, v6, v7, v8].drop 0).take (Try.prog.cellsOf 55)) = some y0 := h0
    rw [cO55] at h0
    replace h0 : DataW.trod enc Try.prog w base spare held k 55 [v0, v1] = some y0 := h0
    obtain ⟨y1, h1, w1⟩ := hf 1 _ rfl
    replace h1 : DataW.trod enc Try.prog w base spare held k 3 (([v0, v1, v2, v3, v4, v5, v6, v7, v8].drop 2).take (Try.prog.cellsOf 3)) = some y1 := h1
    rw [cO3] at h1
    replace h1 : DataW.trod enc Try.prog w base spare held k 3 [v2] = some y1 := h1
    obtain ⟨y2, h2, w2⟩ := hf 2 _ rfl
    replace h2 : DataW.trod enc Try.prog w base spare held k 3 (([v0, v1, v2, v3, v4, v5, v6, v7, v8].drop 3).take (Try.prog.cellsOf 3)) = some y2 := h2
    rw [cO3] at h2
    replace h2 : DataW.trod enc Try.prog w base spare held k 3 [v3] = some y2 := h2
    obtain ⟨y3, h3, w3⟩ := hf 3 _ rfl
    replace h3 : DataW.trod enc Try.prog w base spare held k 3 (([v0, v1, v2, v3, v4, v5, v6, v7, v8].drop 4).take (Try.prog.cellsOf 3)) = some y3 := h3
    rw [cO3] at h3
    replace h3 : DataW.trod enc Try.prog w base spare held k 3 [v4] = some y3 := h3
    obtain ⟨y4, h4, w4⟩ := hf 4 _ rfl
    replace h4 : DataW.trod enc Try.prog w base spare held k 3 (([v0, v1, v2, v3, v4, v5, v6, v7, v8].drop 5).take (Try.prog.cellsOf 3)) = some y4 := h4
    rw [cO3] at h4
    replace h4 : DataW.trod enc Try.prog w base spare held k 3 [v5] = some y4 := h4
    obtain ⟨y5, h5, w5⟩ := hf 5 _ rfl
    replace h5 : DataW.trod enc Try.prog w base spare held k 56 (([v0, v1, v2, v3, v4, v5, v6, v7, v8].drop 6).take (Try.prog.cellsOf 56)) = some y5 := h5
    rw [cO56] at h5
    replace h5 : DataW.trod enc Try.prog w base spare held k 56 [v6] = some y5 := h5
    obtain ⟨y6, h6, w6⟩ := hf 6 _ rfl
    replace h6 : DataW.trod enc Try.prog w base spare held k 3 (([v0, v1, v2, v3, v4, v5, v6, v7, v8].drop 7).take (Try.prog.cellsOf 3)) = some y6 := h6
    rw [cO3] at h6
    replace h6 : DataW.trod enc Try.prog w base spare held k 3 [v7] = some y6 := h6
    obtain ⟨y7, h7, w7⟩ := hf 7 _ rfl
    replace h7 : DataW.trod enc Try.prog w base spare held k 3 (([v0, v1, v2, v3, v4, v5, v6, v7, v8].drop 8).take (Try.prog.cellsOf 3)) = some y7 := h7
    rw [cO3] at h7
    replace h7 : DataW.trod enc Try.prog w base spare held k 3 [v8] = some y7 := h7
    obtain ⟨m1, e1, _, _⟩ := DataW.trod_int Try.underlying3 h1
    simp only [List.cons.injEq, and_true] at e1
    subst e1
    obtain ⟨m2, e2, _, _⟩ := DataW.trod_int Try.underlying3 h2
    simp only [List.cons.injEq, and_true] at e2
    subst e2
    obtain ⟨m3, e3, _, _⟩ := DataW.trod_int Try.underlying3 h3
    simp only [List.cons.injEq, and_true] at e3
    subst e3
    obtain ⟨m4, e4, _, _⟩ := DataW.trod_int Try.underlying3 h4
    simp only [List.cons.injEq, and_true] at e4
    subst e4
    obtain ⟨m6, e6, _, _⟩ := DataW.trod_int Try.underlying3 h6
    simp only [List.cons.injEq, and_true] at e6
    subst e6
    obtain ⟨m7, e7, _, _⟩ := DataW.trod_int Try.underlying3 h7
    simp only [List.cons.injEq, and_true] at e7
    subst e7
    obtain ⟨a, ea, _⟩ := tw55 enc base spare held k _ _ h0 w0
    simp only [eVis, List.cons.injEq, and_true] at ea
    obtain ⟨rfl, rfl⟩ := ea
    obtain ⟨LA, ll, lc, el, fr, _⟩ := rows_w (E := eZ) Try.underlying56 cO3 (int_w Try.underlying3) (by decide +kernel) h5 w5
    simp only [List.cons.injEq, and_true] at el
    subst el
    exact ⟨⟨a.kind, a.item, m1, m2, m3, m4, ll, m6, m7, LA, lc⟩, rfl, fr⟩
theorem tw52 : TellsW Try.prog w 52 ePL (fun p => Fr eST (fun b => b < w.heap.size) w p.sA p.steps ∧ NS (fun b => b < w.heap.size) w p.steps) := by
  intro H enc base spare held n cs y h hw
  obtain ⟨k, hl, hf⟩ := struct_w Try.underlying52 h hw
  rw [cO52] at hl
  match cs, hl with
  | [v0, v1, v2, v3, v4, v5, v6], _ =>
    obtain ⟨y0, h0, w0⟩ := hf 0 _ rfl
    replace h0 : DataW.trod enc Try.prog w base spare held k 3 (([v0, v1, v2, v3, v4, v5, v6].drop 0).take (Try.prog.cellsOf 3)) = some y0 := h0
    rw [cO3] at h0
    replace h0 : DataW.trod enc Try.prog w base spare held k 3 [v0] = some y0 := h0
    obtain ⟨y1, h1, w1⟩ := hf 1 _ rfl
    replace h1 : DataW.trod enc Try.prog w base spare held k 50 (([v0, v1, v2, v3, v4, v5, v6].drop 1).take (Try.prog.cellsOf 50)) = some y1 := h1
    rw [cO50] at h1
    replace h1 : DataW.trod enc Try.prog w base spare held k 50 [v1] = some y1 := h1
    obtain ⟨y2, h2, w2⟩ := hf 2 _ rfl
    replace h2 : DataW.trod enc Try.prog w base spare held k 3 (([v0, v1, v2, v3, v4, v5, v6].drop 2).take (Try.prog.cellsOf 3)) = some y2 := h2
    rw [cO3] at h2
    replace h2 : DataW.trod enc Try.prog w base spare held k 3 [v2] = some y2 := h2
    obtain ⟨y3, h3, w3⟩ := hf 3 _ rfl
    replace h3 : DataW.trod enc Try.prog w base spare held k 3 (([v0, v1, v2, v3, v4, v5, v6].drop 3).take (Try.prog.cellsOf 3)) = some y3 := h3
    rw [cO3] at h3
    replace h3 : DataW.trod enc Try.prog w base spare held k 3 [v3] = some y3 := h3
    obtain ⟨y4, h4, w4⟩ := hf 4 _ rfl
    replace h4 : DataW.trod enc Try.prog w base spare held k 3 (([v0, v1, v2, v3, v4, v5, v6].drop 4).take (Try.prog.cellsOf 3)) = some y4 := h4
    rw [cO3] at h4
    replace h4 : DataW.trod enc Try.prog w base spare held k 3 [v4] = some y4 := h4
    obtain ⟨y5, h5, w5⟩ := hf 5 _ rfl
    replace h5 : DataW.trod enc Try.prog w base spare held k 3 (([v0, v1, v2, v3, v4, v5, v6].drop 5).take (Try.prog.cellsOf 3)) = some y5 := h5
    rw [cO3] at h5
    replace h5 : DataW.trod enc Try.prog w base spare held k 3 [v5] = some y5 := h5
    obtain ⟨y6, h6, w6⟩ := hf 6 _ rfl
    replace h6 : DataW.trod enc Try.prog w base spare held k 3 (([v0, v1, v2, v3, v4, v5, v6].drop 6).take (Try.prog.cellsOf 3)) = some y6 := h6
    rw [cO3] at h6
    replace h6 : DataW.trod enc Try.prog w base spare held k 3 [v6] = some y6 := h6
    obtain ⟨m0, e0, _, _⟩ := DataW.trod_int Try.underlying3 h0
    simp only [List.cons.injEq, and_true] at e0
    subst e0
    obtain ⟨m2, e2, _, _⟩ := DataW.trod_int Try.underlying3 h2
    simp only [List.cons.injEq, and_true] at e2
    subst e2
    obtain ⟨m3, e3, _, _⟩ := DataW.trod_int Try.underlying3 h3
    simp only [List.cons.injEq, and_true] at e3
    subst e3
    obtain ⟨m4, e4, _, _⟩ := DataW.trod_int Try.underlying3 h4
    simp only [List.cons.injEq, and_true] at e4
    subst e4
    obtain ⟨m5, e5, _, _⟩ := DataW.trod_int Try.underlying3 h5
    simp only [List.cons.injEq, and_true] at e5
    subst e5
    obtain ⟨m6, e6, _, _⟩ := DataW.trod_int Try.underlying3 h6
    simp only [List.cons.injEq, and_true] at e6
    subst e6
    obtain ⟨LA, ll, lc, el, fr, gd⟩ := rows_w (E := eST) Try.underlying50 cO58 tw58 (by decide +kernel) h1 w1
    simp only [List.cons.injEq, and_true] at el
    subst el
    exact ⟨⟨m0, ll, m2, m3, m4, m5, m6, LA, lc⟩, rfl, fr, gd⟩
structure RP where
  cd : Int
  at_ : Int
  path : ByteArray
  op : Bool
  s : SU
  pA : Option Addr
  pc : Nat
  ps : List PV
  kA : Option Addr
  kc : Nat
  lf : List TK
def eRP : Enc RP where
  sz := 14
  enc x := [.int .i64 x.cd, .int .i64 x.at_, .string x.path, .bool x.op, .int .i64 x.s.routes, .int .i64 x.s.value, .int .i64 x.s.cost, .int .i64 x.s.time, .int .i64 x.s.dist, .int .i64 x.s.wait, .int .i64 x.s.serv, .int .i64 x.s.left, .slice x.pA x.ps.length x.pc, .slice x.kA x.lf.length x.kc]
  len _ := rfl
  one x u hu := by simp at hu; rcases hu with rfl | rfl | rfl | rfl | rfl | rfl | rfl | rfl | rfl | rfl | rfl | rfl | rfl | rfl <;> rfl
  pos := by decide
theorem tw30 : TellsW Try.prog w 30 eRP (fun x => Fr ePL (fun b => b < w.heap.size) w x.pA x.ps ∧ NP (fun b => b < w.heap.size) w x.ps ∧ Fr eTK (fun b => b < w.heap.size) w x.kA x.lf) := by
  intro H enc base spare held n cs y h hw
  obtain ⟨k, hl, hf⟩ := struct_w Try.underlying30 h hw
  rw [cO30] at hl
  match cs, hl with
  | [v0, v1, v2, v3, v4, v5, v6, v7, v8, v9, v10, v11, v12, v13], _ =>
    obtain ⟨y0, h0, w0⟩ := hf 0 _ rfl
    replace h0 : DataW.trod enc Try.prog w base spare held k 24 (([v0, v1, v2, v3, v4, v5, v6, v7, v8, v9, v10, v11, v12, v13].drop 0).take (Try.prog.cellsOf 24)) = some y0 := h0
    rw [cO24] at h0
    replace h0 : DataW.trod enc Try.prog w base spare held k 24 [v0, v1, v2] = some y0 := h0
    obtain ⟨y1, h1, w1⟩ := hf 1 _ rfl
    replace h1 : DataW.trod enc Try.prog w base spare held k 4 (([v0, v1, v2, v3, v4, v5, v6, v7, v8, v9, v10, v11, v12, v13].drop 3).take (Try.prog.cellsOf 4)) = some y1 := h1
    rw [cO4] at h1
    replace h1 : DataW.trod enc Try.prog w base spare held k 4 [v3] = some y1 := h1
    obtain ⟨y2, h2, w2⟩ := hf 2 _ rfl
    replace h2 : DataW.trod enc Try.prog w base spare held k 26 (([v0, v1, v2, v3, v4, v5, v6, v7, v8, v9, v10, v11, v12, v13].drop 4).take (Try.prog.cellsOf 26)) = some y2 := h2
    rw [cO26] at h2
    replace h2 : DataW.trod enc Try.prog w base spare held k 26 [v4, v5, v6, v7, v8, v9, v10, v11] = some y2 := h2
    obtain ⟨y3, h3, w3⟩ := hf 3 _ rfl
    replace h3 : DataW.trod enc Try.prog w base spare held k 27 (([v0, v1, v2, v3, v4, v5, v6, v7, v8, v9, v10, v11, v12, v13].drop 12).take (Try.prog.cellsOf 27)) = some y3 := h3
    rw [cO27] at h3
    replace h3 : DataW.trod enc Try.prog w base spare held k 27 [v12] = some y3 := h3
    obtain ⟨y4, h4, w4⟩ := hf 4 _ rfl
    replace h4 : DataW.trod enc Try.prog w base spare held k 28 (([v0, v1, v2, v3, v4, v5, v6, v7, v8, v9, v10, v11, v12, v13].drop 13).take (Try.prog.cellsOf 28)) = some y4 := h4
    rw [cO28] at h4
    replace h4 : DataW.trod enc Try.prog w base spare held k 28 [v13] = some y4 := h4
    obtain ⟨m1, e1, _⟩ := DataW.trod_bool Try.underlying4 h1
    simp only [List.cons.injEq, and_true] at e1
    subst e1
    obtain ⟨a, ea, _⟩ := tw24 enc base spare held k _ _ h0 w0
    simp only [eFl, List.cons.injEq, and_true] at ea
    obtain ⟨rfl, rfl, rfl⟩ := ea
    obtain ⟨b, eb, _⟩ := tw26 enc base spare held k _ _ h2 w2
    simp only [eSU, List.cons.injEq, and_true] at eb
    obtain ⟨rfl, rfl, rfl, rfl, rfl, rfl, rfl, rfl⟩ := eb
    obtain ⟨PA, pl, pc, ep, frp, gp⟩ := rows_w (E := ePL) Try.underlying27 cO52 tw52 (by decide +kernel) h3 w3
    simp only [List.cons.injEq, and_true] at ep
    subst ep
    obtain ⟨KA, kl, kc, ek, frk, _⟩ := rows_w (E := eTK) Try.underlying28 cO62 tw62 (by decide +kernel) h4 w4
    simp only [List.cons.injEq, and_true] at ek
    subst ek
    exact ⟨⟨a.cd, a.at_, a.path, m1, b, PA, pc, pl, KA, kc, kl⟩, rfl, frp, gp, frk⟩
end
end Go.Proofs.Ythmkelkefmfmgaa.Sx
