import Derived.Test.YtimhdimhdimbjaaGreatProg
import Derived.Test.YtimhdimhdimbjaaGreatS9
set_option linter.unusedVariables false
set_option linter.unusedSimpArgs false
set_option linter.unusedSectionVars false
set_option maxRecDepth 20000
namespace Go.Proofs.YtimhdimhdimbjaaGreat.Sx
open Go Go.SX Go.Proofs Go.Proofs.Tryz
theorem cO3 : prog.cellsOf 3 = 1 := by kernel_rfl
theorem cO22 : prog.cellsOf 22 = 1 := by kernel_rfl
theorem cO24 : prog.cellsOf 24 = 2 := by kernel_rfl
theorem cO25 : prog.cellsOf 25 = 1 := by kernel_rfl
theorem cO26 : prog.cellsOf 26 = 1 := by kernel_rfl
theorem cO27 : prog.cellsOf 27 = 1 := by kernel_rfl
theorem cO29 : prog.cellsOf 29 = 8 := by kernel_rfl
theorem cO67 : prog.cellsOf 67 = 1 := by kernel_rfl
theorem cO69 : prog.cellsOf 69 = 2 := by kernel_rfl
theorem cO70 : prog.cellsOf 70 = 1 := by kernel_rfl
theorem cO72 : prog.cellsOf 72 = 11 := by kernel_rfl
theorem cO73 : prog.cellsOf 73 = 1 := by kernel_rfl
theorem cO75 : prog.cellsOf 75 = 2 := by kernel_rfl
theorem cO78 : prog.cellsOf 78 = 3 := by kernel_rfl
theorem cO80 : prog.cellsOf 80 = 7 := by kernel_rfl
theorem cO83 : prog.cellsOf 83 = 9 := by kernel_rfl
theorem wf_u64 {n : Int} (h : (Lit.int .u64 n).wf = true) : 0 ≤ n := by simp [Lit.wf, IntKind.min, IntKind.max, IntKind.signed, IntKind.bits] at h; omega
def eSO : Enc SO where
 sz := 5 - 2
 enc x := [.int .i64 x.pl, .int .i64 x.srv, .slice x.soA x.sws.length x.soc]
 len _ := rfl
 one x u hu := by simp at hu; rcases hu with rfl | rfl | rfl <;> rfl
 pos := by decide
structure MX where
 n : Int
 l : List Int
 A : Option Addr
 c : Nat
def eMX : Enc MX where
 sz := 2
 enc x := [.int .i64 x.n, .slice x.A x.l.length x.c]
 len _ := rfl
 one x u hu := by simp at hu; rcases hu with rfl | rfl <;> rfl
 pos := by decide
def ePB : Enc PB where
 sz := 8
 enc p := (cPB p)
 len _ := rfl
 one x u hu := by simp at hu; rcases hu with rfl | rfl | rfl | rfl | rfl | rfl | rfl | rfl <;> rfl
 pos := by decide
section
variable {w : World}
abbrev HS (w : World) : Nat → Prop := fun b => b < w.heap.size
theorem tw69 : TellsW prog w 69 eWN (fun _ => True) := by
 intro H enc base spare held n cs y h hw
 obtain ⟨k, hl, hf⟩ := struct_w underlying69 h hw
 rw [cO69] at hl
 match cs, hl with
 | [v0, v1], _ =>
  obtain ⟨y0, h0, w0⟩ := hf 0 _ rfl
  replace h0 : DataW.trod enc prog w base spare held k 3 (([v0, v1].drop 0).take (prog.cellsOf 3)) = some y0 := h0
  rw [cO3] at h0
  replace h0 : DataW.trod enc prog w base spare held k 3 [v0] = some y0 := h0
  obtain ⟨y1, h1, w1⟩ := hf 1 _ rfl
  replace h1 : DataW.trod enc prog w base spare held k 3 (([v0, v1].drop 1).take (prog.cellsOf 3)) = some y1 := h1
  rw [cO3] at h1
  replace h1 : DataW.trod enc prog w base spare held k 3 [v1] = some y1 := h1
  obtain ⟨m0, e0, _, wf0⟩ := DataW.trod_int underlying3 h0
  simp only [List.cons.injEq, and_true] at e0
  subst e0
  obtain ⟨m1, e1, _, wf1⟩ := DataW.trod_int underlying3 h1
  simp only [List.cons.injEq, and_true] at e1
  subst e1
  exact ⟨⟨m0, m1⟩, G, trivial⟩
theorem tw75 : TellsW prog w 75 eBK (fun b => BKF (HS w) w b) := by
 intro H enc base spare held n cs y h hw
 obtain ⟨k, hl, hf⟩ := struct_w underlying75 h hw
 rw [cO75] at hl
 match cs, hl with
 | [v0, v1], _ =>
  obtain ⟨y0, h0, w0⟩ := hf 0 _ rfl
  replace h0 : DataW.trod enc prog w base spare held k 73 (([v0, v1].drop 0).take (prog.cellsOf 73)) = some y0 := h0
  rw [cO73] at h0
  replace h0 : DataW.trod enc prog w base spare held k 73 [v0] = some y0 := h0
  obtain ⟨y1, h1, w1⟩ := hf 1 _ rfl
  replace h1 : DataW.trod enc prog w base spare held k 3 (([v0, v1].drop 1).take (prog.cellsOf 3)) = some y1 := h1
  rw [cO3] at h1
  replace h1 : DataW.trod enc prog w base spare held k 3 [v1] = some y1 := h1
  obtain ⟨m1, e1, _, wf1⟩ := DataW.trod_int underlying3 h1
  simp only [List.cons.injEq, and_true] at e1
  subst e1
  obtain ⟨AW, lW, cW, elW, frW, gdW⟩ := rows_w (E := eWN) underlying73 cO69 tw69 (by decide +kernel) h0 w0
  simp only [List.cons.injEq, and_true] at elW
  subst elW
  exact ⟨⟨lW, m1, AW, cW⟩, G, frW⟩
theorem tw72 : TellsW prog w 72 eVH (fun v => VHF (HS w) w v ∧ 0 ≤ v.vsk) := by
 intro H enc base spare held n cs y h hw
 obtain ⟨k, hl, hf⟩ := struct_w underlying72 h hw
 rw [cO72] at hl
 match cs, hl with
 | [v0, v1, v2, v3, v4, v5, v6, v7, v8, v9, v10], _ =>
  obtain ⟨y0, h0, w0⟩ := hf 0 _ rfl
  replace h0 : DataW.trod enc prog w base spare held k 3 (([v0, v1, v2, v3, v4, v5, v6, v7, v8, v9, v10].drop 0).take (prog.cellsOf 3)) = some y0 := h0
  rw [cO3] at h0
  replace h0 : DataW.trod enc prog w base spare held k 3 [v0] = some y0 := h0
  obtain ⟨y1, h1, w1⟩ := hf 1 _ rfl
  replace h1 : DataW.trod enc prog w base spare held k 3 (([v0, v1, v2, v3, v4, v5, v6, v7, v8, v9, v10].drop 1).take (prog.cellsOf 3)) = some y1 := h1
  rw [cO3] at h1
  replace h1 : DataW.trod enc prog w base spare held k 3 [v1] = some y1 := h1
  obtain ⟨y2, h2, w2⟩ := hf 2 _ rfl
  replace h2 : DataW.trod enc prog w base spare held k 22 (([v0, v1, v2, v3, v4, v5, v6, v7, v8, v9, v10].drop 2).take (prog.cellsOf 22)) = some y2 := h2
  rw [cO22] at h2
  replace h2 : DataW.trod enc prog w base spare held k 22 [v2] = some y2 := h2
  obtain ⟨y3, h3, w3⟩ := hf 3 _ rfl
  replace h3 : DataW.trod enc prog w base spare held k 67 (([v0, v1, v2, v3, v4, v5, v6, v7, v8, v9, v10].drop 3).take (prog.cellsOf 67)) = some y3 := h3
  rw [cO67] at h3
  replace h3 : DataW.trod enc prog w base spare held k 67 [v3] = some y3 := h3
  obtain ⟨y4, h4, w4⟩ := hf 4 _ rfl
  replace h4 : DataW.trod enc prog w base spare held k 69 (([v0, v1, v2, v3, v4, v5, v6, v7, v8, v9, v10].drop 4).take (prog.cellsOf 69)) = some y4 := h4
  rw [cO69] at h4
  replace h4 : DataW.trod enc prog w base spare held k 69 [v4, v5] = some y4 := h4
  obtain ⟨y5, h5, w5⟩ := hf 5 _ rfl
  replace h5 : DataW.trod enc prog w base spare held k 3 (([v0, v1, v2, v3, v4, v5, v6, v7, v8, v9, v10].drop 6).take (prog.cellsOf 3)) = some y5 := h5
  rw [cO3] at h5
  replace h5 : DataW.trod enc prog w base spare held k 3 [v6] = some y5 := h5
  obtain ⟨y6, h6, w6⟩ := hf 6 _ rfl
  replace h6 : DataW.trod enc prog w base spare held k 3 (([v0, v1, v2, v3, v4, v5, v6, v7, v8, v9, v10].drop 7).take (prog.cellsOf 3)) = some y6 := h6
  rw [cO3] at h6
  replace h6 : DataW.trod enc prog w base spare held k 3 [v7] = some y6 := h6
  obtain ⟨y7, h7, w7⟩ := hf 7 _ rfl
  replace h7 : DataW.trod enc prog w base spare held k 3 (([v0, v1, v2, v3, v4, v5, v6, v7, v8, v9, v10].drop 8).take (prog.cellsOf 3)) = some y7 := h7
  rw [cO3] at h7
  replace h7 : DataW.trod enc prog w base spare held k 3 [v8] = some y7 := h7
  obtain ⟨y8, h8, w8⟩ := hf 8 _ rfl
  replace h8 : DataW.trod enc prog w base spare held k 3 (([v0, v1, v2, v3, v4, v5, v6, v7, v8, v9, v10].drop 9).take (prog.cellsOf 3)) = some y8 := h8
  rw [cO3] at h8
  replace h8 : DataW.trod enc prog w base spare held k 3 [v9] = some y8 := h8
  obtain ⟨y9, h9, w9⟩ := hf 9 _ rfl
  replace h9 : DataW.trod enc prog w base spare held k 70 (([v0, v1, v2, v3, v4, v5, v6, v7, v8, v9, v10].drop 10).take (prog.cellsOf 70)) = some y9 := h9
  rw [cO70] at h9
  replace h9 : DataW.trod enc prog w base spare held k 70 [v10] = some y9 := h9
  obtain ⟨m0, e0, _, wf0⟩ := DataW.trod_int underlying3 h0
  simp only [List.cons.injEq, and_true] at e0
  subst e0
  obtain ⟨m1, e1, _, wf1⟩ := DataW.trod_int underlying3 h1
  simp only [List.cons.injEq, and_true] at e1
  subst e1
  obtain ⟨m3, e3, _, wf3⟩ := DataW.trod_int underlying67 h3
  simp only [List.cons.injEq, and_true] at e3
  subst e3
  obtain ⟨m5, e5, _, wf5⟩ := DataW.trod_int underlying3 h5
  simp only [List.cons.injEq, and_true] at e5
  subst e5
  obtain ⟨m6, e6, _, wf6⟩ := DataW.trod_int underlying3 h6
  simp only [List.cons.injEq, and_true] at e6
  subst e6
  obtain ⟨m7, e7, _, wf7⟩ := DataW.trod_int underlying3 h7
  simp only [List.cons.injEq, and_true] at e7
  subst e7
  obtain ⟨m8, e8, _, wf8⟩ := DataW.trod_int underlying3 h8
  simp only [List.cons.injEq, and_true] at e8
  subst e8
  obtain ⟨aS, eaS, gaS⟩ := tw69 enc base spare held k _ _ h4 w4
  simp only [eWN, List.cons.injEq, and_true] at eaS
  obtain ⟨rfl, rfl⟩ := eaS
  obtain ⟨AC, lC, cC, elC, frC, gdC⟩ := rows_w (E := eZ) underlying22 cO3 (int_w underlying3) (by decide +kernel) h2 w2
  simp only [List.cons.injEq, and_true] at elC
  subst elC
  obtain ⟨AB, lB, cB, elB, frB, gdB⟩ := rows_w (E := eBK) underlying70 cO75 tw75 (by decide +kernel) h9 w9
  simp only [List.cons.injEq, and_true] at elB
  subst elB
  exact ⟨⟨m0, m1, lC, m3, aS.lo, aS.hi, m5, m6, m7, m8, lB, AC, cC, AB, cB⟩, G, ⟨frC, frB, gt_all (Φ := BKF (HS w) w) gdB (Fr.nil _ _ _ _)⟩, wf_u64 wf3⟩
theorem tw78 : TellsW prog w 78 eSO (fun s => SOF (HS w) w s) := by
 intro H enc base spare held n cs y h hw
 obtain ⟨k, hl, hf⟩ := struct_w underlying78 h hw
 rw [cO78] at hl
 match cs, hl with
 | [v0, v1, v2], _ =>
  obtain ⟨y0, h0, w0⟩ := hf 0 _ rfl
  replace h0 : DataW.trod enc prog w base spare held k 3 (([v0, v1, v2].drop 0).take (prog.cellsOf 3)) = some y0 := h0
  rw [cO3] at h0
  replace h0 : DataW.trod enc prog w base spare held k 3 [v0] = some y0 := h0
  obtain ⟨y1, h1, w1⟩ := hf 1 _ rfl
  replace h1 : DataW.trod enc prog w base spare held k 3 (([v0, v1, v2].drop 1).take (prog.cellsOf 3)) = some y1 := h1
  rw [cO3] at h1
  replace h1 : DataW.trod enc prog w base spare held k 3 [v1] = some y1 := h1
  obtain ⟨y2, h2, w2⟩ := hf 2 _ rfl
  replace h2 : DataW.trod enc prog w base spare held k 73 (([v0, v1, v2].drop 2).take (prog.cellsOf 73)) = some y2 := h2
  rw [cO73] at h2
  replace h2 : DataW.trod enc prog w base spare held k 73 [v2] = some y2 := h2
  obtain ⟨m0, e0, _, wf0⟩ := DataW.trod_int underlying3 h0
  simp only [List.cons.injEq, and_true] at e0
  subst e0
  obtain ⟨m1, e1, _, wf1⟩ := DataW.trod_int underlying3 h1
  simp only [List.cons.injEq, and_true] at e1
  subst e1
  obtain ⟨AW, lW, cW, elW, frW, gdW⟩ := rows_w (E := eWN) underlying73 cO69 tw69 (by decide +kernel) h2 w2
  simp only [List.cons.injEq, and_true] at elW
  subst elW
  exact ⟨⟨m0, m1, lW, AW, cW⟩, G, frW⟩
theorem tw80 : TellsW prog w 80 eJB (fun v => JBF (HS w) w v ∧ 0 ≤ v.jsk) := by
 intro H enc base spare held n cs y h hw
 obtain ⟨k, hl, hf⟩ := struct_w underlying80 h hw
 rw [cO80] at hl
 match cs, hl with
 | [v0, v1, v2, v3, v4, v5, v6], _ =>
  obtain ⟨y0, h0, w0⟩ := hf 0 _ rfl
  replace h0 : DataW.trod enc prog w base spare held k 78 (([v0, v1, v2, v3, v4, v5, v6].drop 0).take (prog.cellsOf 78)) = some y0 := h0
  rw [cO78] at h0
  replace h0 : DataW.trod enc prog w base spare held k 78 [v0, v1, v2] = some y0 := h0
  obtain ⟨y1, h1, w1⟩ := hf 1 _ rfl
  replace h1 : DataW.trod enc prog w base spare held k 22 (([v0, v1, v2, v3, v4, v5, v6].drop 3).take (prog.cellsOf 22)) = some y1 := h1
  rw [cO22] at h1
  replace h1 : DataW.trod enc prog w base spare held k 22 [v3] = some y1 := h1
  obtain ⟨y2, h2, w2⟩ := hf 2 _ rfl
  replace h2 : DataW.trod enc prog w base spare held k 22 (([v0, v1, v2, v3, v4, v5, v6].drop 4).take (prog.cellsOf 22)) = some y2 := h2
  rw [cO22] at h2
  replace h2 : DataW.trod enc prog w base spare held k 22 [v4] = some y2 := h2
  obtain ⟨y3, h3, w3⟩ := hf 3 _ rfl
  replace h3 : DataW.trod enc prog w base spare held k 67 (([v0, v1, v2, v3, v4, v5, v6].drop 5).take (prog.cellsOf 67)) = some y3 := h3
  rw [cO67] at h3
  replace h3 : DataW.trod enc prog w base spare held k 67 [v5] = some y3 := h3
  obtain ⟨y4, h4, w4⟩ := hf 4 _ rfl
  replace h4 : DataW.trod enc prog w base spare held k 3 (([v0, v1, v2, v3, v4, v5, v6].drop 6).take (prog.cellsOf 3)) = some y4 := h4
  rw [cO3] at h4
  replace h4 : DataW.trod enc prog w base spare held k 3 [v6] = some y4 := h4
  obtain ⟨m3, e3, _, wf3⟩ := DataW.trod_int underlying67 h3
  simp only [List.cons.injEq, and_true] at e3
  subst e3
  obtain ⟨m4, e4, _, wf4⟩ := DataW.trod_int underlying3 h4
  simp only [List.cons.injEq, and_true] at e4
  subst e4
  obtain ⟨aS, eaS, gaS⟩ := tw78 enc base spare held k _ _ h0 w0
  simp only [eSO, List.cons.injEq, and_true] at eaS
  obtain ⟨rfl, rfl, rfl⟩ := eaS
  obtain ⟨AD, lD, cD, elD, frD, gdD⟩ := rows_w (E := eZ) underlying22 cO3 (int_w underlying3) (by decide +kernel) h1 w1
  simp only [List.cons.injEq, and_true] at elD
  subst elD
  obtain ⟨AK, lK, cK, elK, frK, gdK⟩ := rows_w (E := eZ) underlying22 cO3 (int_w underlying3) (by decide +kernel) h2 w2
  simp only [List.cons.injEq, and_true] at elK
  subst elK
  exact ⟨⟨aS, lD, lK, m3, m4, AD, cD, AK, cK⟩, G, ⟨frD, frK, gaS⟩, wf_u64 wf3⟩
theorem tw83 : TellsW prog w 83 eSH (fun v => SHF (HS w) w v ∧ 0 ≤ v.ssk) := by
 intro H enc base spare held n cs y h hw
 obtain ⟨k, hl, hf⟩ := struct_w underlying83 h hw
 rw [cO83] at hl
 match cs, hl with
 | [v0, v1, v2, v3, v4, v5, v6, v7, v8], _ =>
  obtain ⟨y0, h0, w0⟩ := hf 0 _ rfl
  replace h0 : DataW.trod enc prog w base spare held k 78 (([v0, v1, v2, v3, v4, v5, v6, v7, v8].drop 0).take (prog.cellsOf 78)) = some y0 := h0
  rw [cO78] at h0
  replace h0 : DataW.trod enc prog w base spare held k 78 [v0, v1, v2] = some y0 := h0
  obtain ⟨y1, h1, w1⟩ := hf 1 _ rfl
  replace h1 : DataW.trod enc prog w base spare held k 78 (([v0, v1, v2, v3, v4, v5, v6, v7, v8].drop 3).take (prog.cellsOf 78)) = some y1 := h1
  rw [cO78] at h1
  replace h1 : DataW.trod enc prog w base spare held k 78 [v3, v4, v5] = some y1 := h1
  obtain ⟨y2, h2, w2⟩ := hf 2 _ rfl
  replace h2 : DataW.trod enc prog w base spare held k 22 (([v0, v1, v2, v3, v4, v5, v6, v7, v8].drop 6).take (prog.cellsOf 22)) = some y2 := h2
  rw [cO22] at h2
  replace h2 : DataW.trod enc prog w base spare held k 22 [v6] = some y2 := h2
  obtain ⟨y3, h3, w3⟩ := hf 3 _ rfl
  replace h3 : DataW.trod enc prog w base spare held k 67 (([v0, v1, v2, v3, v4, v5, v6, v7, v8].drop 7).take (prog.cellsOf 67)) = some y3 := h3
  rw [cO67] at h3
  replace h3 : DataW.trod enc prog w base spare held k 67 [v7] = some y3 := h3
  obtain ⟨y4, h4, w4⟩ := hf 4 _ rfl
  replace h4 : DataW.trod enc prog w base spare held k 3 (([v0, v1, v2, v3, v4, v5, v6, v7, v8].drop 8).take (prog.cellsOf 3)) = some y4 := h4
  rw [cO3] at h4
  replace h4 : DataW.trod enc prog w base spare held k 3 [v8] = some y4 := h4
  obtain ⟨m3, e3, _, wf3⟩ := DataW.trod_int underlying67 h3
  simp only [List.cons.injEq, and_true] at e3
  subst e3
  obtain ⟨m4, e4, _, wf4⟩ := DataW.trod_int underlying3 h4
  simp only [List.cons.injEq, and_true] at e4
  subst e4
  obtain ⟨aP, eaP, gaP⟩ := tw78 enc base spare held k _ _ h0 w0
  simp only [eSO, List.cons.injEq, and_true] at eaP
  obtain ⟨rfl, rfl, rfl⟩ := eaP
  obtain ⟨aD, eaD, gaD⟩ := tw78 enc base spare held k _ _ h1 w1
  simp only [eSO, List.cons.injEq, and_true] at eaD
  obtain ⟨rfl, rfl, rfl⟩ := eaD
  obtain ⟨AM, lM, cM, elM, frM, gdM⟩ := rows_w (E := eZ) underlying22 cO3 (int_w underlying3) (by decide +kernel) h2 w2
  simp only [List.cons.injEq, and_true] at elM
  subst elM
  exact ⟨⟨aP, aD, lM, m3, m4, AM, cM⟩, G, ⟨frM, gaP, gaD⟩, wf_u64 wf3⟩
theorem tw24 : TellsW prog w 24 eMX (fun v => Fr eZ (HS w) w v.A v.l) := by
 intro H enc base spare held n cs y h hw
 obtain ⟨k, hl, hf⟩ := struct_w underlying24 h hw
 rw [cO24] at hl
 match cs, hl with
 | [v0, v1], _ =>
  obtain ⟨y0, h0, w0⟩ := hf 0 _ rfl
  replace h0 : DataW.trod enc prog w base spare held k 3 (([v0, v1].drop 0).take (prog.cellsOf 3)) = some y0 := h0
  rw [cO3] at h0
  replace h0 : DataW.trod enc prog w base spare held k 3 [v0] = some y0 := h0
  obtain ⟨y1, h1, w1⟩ := hf 1 _ rfl
  replace h1 : DataW.trod enc prog w base spare held k 22 (([v0, v1].drop 1).take (prog.cellsOf 22)) = some y1 := h1
  rw [cO22] at h1
  replace h1 : DataW.trod enc prog w base spare held k 22 [v1] = some y1 := h1
  obtain ⟨m0, e0, _, wf0⟩ := DataW.trod_int underlying3 h0
  simp only [List.cons.injEq, and_true] at e0
  subst e0
  obtain ⟨AC, lC, cC, elC, frC, gdC⟩ := rows_w (E := eZ) underlying22 cO3 (int_w underlying3) (by decide +kernel) h1 w1
  simp only [List.cons.injEq, and_true] at elC
  subst elC
  exact ⟨⟨m0, lC, AC, cC⟩, G, frC⟩
theorem tw29 : TellsW prog w 29 ePB (fun p => PBF (HS w) w p ∧ SkU p) := by
 intro H enc base spare held n cs y h hw
 obtain ⟨k, hl, hf⟩ := struct_w underlying29 h hw
 rw [cO29] at hl
 match cs, hl with
 | [v0, v1, v2, v3, v4, v5, v6, v7], _ =>
  obtain ⟨y0, h0, w0⟩ := hf 0 _ rfl
  replace h0 : DataW.trod enc prog w base spare held k 3 (([v0, v1, v2, v3, v4, v5, v6, v7].drop 0).take (prog.cellsOf 3)) = some y0 := h0
  rw [cO3] at h0
  replace h0 : DataW.trod enc prog w base spare held k 3 [v0] = some y0 := h0
  obtain ⟨y1, h1, w1⟩ := hf 1 _ rfl
  replace h1 : DataW.trod enc prog w base spare held k 24 (([v0, v1, v2, v3, v4, v5, v6, v7].drop 1).take (prog.cellsOf 24)) = some y1 := h1
  rw [cO24] at h1
  replace h1 : DataW.trod enc prog w base spare held k 24 [v1, v2] = some y1 := h1
  obtain ⟨y2, h2, w2⟩ := hf 2 _ rfl
  replace h2 : DataW.trod enc prog w base spare held k 24 (([v0, v1, v2, v3, v4, v5, v6, v7].drop 3).take (prog.cellsOf 24)) = some y2 := h2
  rw [cO24] at h2
  replace h2 : DataW.trod enc prog w base spare held k 24 [v3, v4] = some y2 := h2
  obtain ⟨y3, h3, w3⟩ := hf 3 _ rfl
  replace h3 : DataW.trod enc prog w base spare held k 25 (([v0, v1, v2, v3, v4, v5, v6, v7].drop 5).take (prog.cellsOf 25)) = some y3 := h3
  rw [cO25] at h3
  replace h3 : DataW.trod enc prog w base spare held k 25 [v5] = some y3 := h3
  obtain ⟨y4, h4, w4⟩ := hf 4 _ rfl
  replace h4 : DataW.trod enc prog w base spare held k 26 (([v0, v1, v2, v3, v4, v5, v6, v7].drop 6).take (prog.cellsOf 26)) = some y4 := h4
  rw [cO26] at h4
  replace h4 : DataW.trod enc prog w base spare held k 26 [v6] = some y4 := h4
  obtain ⟨y5, h5, w5⟩ := hf 5 _ rfl
  replace h5 : DataW.trod enc prog w base spare held k 27 (([v0, v1, v2, v3, v4, v5, v6, v7].drop 7).take (prog.cellsOf 27)) = some y5 := h5
  rw [cO27] at h5
  replace h5 : DataW.trod enc prog w base spare held k 27 [v7] = some y5 := h5
  obtain ⟨m0, e0, _, wf0⟩ := DataW.trod_int underlying3 h0
  simp only [List.cons.injEq, and_true] at e0
  subst e0
  obtain ⟨aT, eaT, gaT⟩ := tw24 enc base spare held k _ _ h1 w1
  simp only [eMX, List.cons.injEq, and_true] at eaT
  obtain ⟨rfl, rfl⟩ := eaT
  obtain ⟨aD, eaD, gaD⟩ := tw24 enc base spare held k _ _ h2 w2
  simp only [eMX, List.cons.injEq, and_true] at eaD
  obtain ⟨rfl, rfl⟩ := eaD
  obtain ⟨AV, lV, cV, elV, frV, gdV⟩ := rows_w (E := eVH) underlying25 cO72 tw72 (by decide +kernel) h3 w3
  simp only [List.cons.injEq, and_true] at elV
  subst elV
  obtain ⟨AJ, lJ, cJ, elJ, frJ, gdJ⟩ := rows_w (E := eJB) underlying26 cO80 tw80 (by decide +kernel) h4 w4
  simp only [List.cons.injEq, and_true] at elJ
  subst elJ
  obtain ⟨AZ, lZ, cZ, elZ, frZ, gdZ⟩ := rows_w (E := eSH) underlying27 cO83 tw83 (by decide +kernel) h5 w5
  simp only [List.cons.injEq, and_true] at elZ
  subst elZ
  exact ⟨⟨m0, aT.n, aT.l, aD.n, aD.l, lV, lJ, lZ, aT.A, aT.c, aD.A, aD.c, AV, cV, AJ, cJ, AZ, cZ⟩, G, ⟨gaT, gaD, ⟨frV, gt_all (Φ := VHF (HS w) w) (fun x hx => (gdV x hx).1) VHF.dflt⟩, ⟨frJ, gt_all (Φ := JBF (HS w) w) (fun x hx => (gdJ x hx).1) JBF.dflt⟩, ⟨frZ, gt_all (Φ := SHF (HS w) w) (fun x hx => (gdZ x hx).1) SHF.dflt⟩⟩, ⟨gt_all (Φ := fun v : VH => 0 ≤ v.vsk) (fun x hx => (gdV x hx).2) (Int.le_refl _), gt_all (Φ := fun v : JB => 0 ≤ v.jsk) (fun x hx => (gdJ x hx).2) (Int.le_refl _), gt_all (Φ := fun v : SH => 0 ≤ v.ssk) (fun x hx => (gdZ x hx).2) (Int.le_refl _)⟩⟩
end
end Go.Proofs.YtimhdimhdimbjaaGreat.Sx
