import Derived.Test.YteabdapdlfhncaaRows
import Derived.Test.YteabdapdlfhncaaSx16J
import Derived.Test.YteabdapdlfhncaaSxArgs
import Derived.WalkKit
import Derived.ProofKit
import Derived.OpenShut
import Derived.ShutString
import Derived.ChangeOld
import Derived.Below
import Derived.SizedLaws
set_option linter.unusedVariables false
set_option linter.unusedSimpArgs false
namespace Go.SX
/-- A move: a change and its places. -/
structure Mov where
  c : Int
  i : Int
  j : Int
  k : Int
  deriving DecidableEq, Inhabited
def eMov : Enc Mov where
  sz := 4
  enc x := [.int .i64 x.c, .int .i64 x.i, .int .i64 x.j, .int .i64 x.k]
  len _ := rfl
  one x u hu := by simp at hu; rcases hu with rfl | rfl | rfl | rfl <;> rfl
  pos := by decide
def i64 (n : Int) : Prop := -9223372036854775808 ≤ n ∧ n ≤ 9223372036854775807
theorem wf_i64 {n : Int} (h : (Lit.int .i64 n).wf = true) : i64 n := by
  simp [Lit.wf, IntKind.min, IntKind.max] at h
  simpa [IntKind.signed, IntKind.bits, i64] using h
end Go.SX
namespace Go.Proofs.Yteabdapdlfhncaa.Sx
open Go Go.SX Go.Proofs
theorem c3 : Try.prog.cellsOf 3 = 1 := by kernel_rfl
theorem c34 : Try.prog.cellsOf 34 = 1 := by kernel_rfl
theorem c36 : Try.prog.cellsOf 36 = 2 := by kernel_rfl
theorem c24 : Try.prog.cellsOf 24 = 4 := by kernel_rfl
theorem told36 : Tells Try.prog 36 eVis (fun x => i64 x.kind ∧ i64 x.item) := by
  intro H enc w base spare held n cs y h
  obtain ⟨xs, k, _, _, hl, hx, hf⟩ := DataW.trod_struct Try.underlying36 h
  rw [c36] at hl
  match cs, hl with
  | [v0, v1], _ =>
    have h0 : DataW.trod enc Try.prog w base spare held k 34 (([v0, v1].drop 0).take (Try.prog.cellsOf 34)) = xs[0]? := hf 0 _ rfl
    have h1 : DataW.trod enc Try.prog w base spare held k 3 (([v0, v1].drop 1).take (Try.prog.cellsOf 3)) = xs[1]? := hf 1 _ rfl
    rw [List.getElem?_eq_getElem (by rw [hx]; decide)] at h0 h1
    simp only [c3, c34] at h0 h1
    obtain ⟨m0, e0, _, w0⟩ := DataW.trod_int Try.underlying34 h0
    obtain ⟨m1, e1, _, w1⟩ := DataW.trod_int Try.underlying3 h1
    simp at e0 e1
    subst e0 e1
    exact ⟨⟨m0, m1⟩, rfl, wf_i64 w0, wf_i64 w1⟩
theorem told24 : Tells Try.prog 24 eMov (fun x => i64 x.c ∧ i64 x.i ∧ i64 x.j ∧ i64 x.k) := by
  intro H enc w base spare held n cs y h
  obtain ⟨xs, k, _, _, hl, hx, hf⟩ := DataW.trod_struct Try.underlying24 h
  rw [c24] at hl
  match cs, hl with
  | [v0, v1, v2, v3], _ =>
    have h0 : DataW.trod enc Try.prog w base spare held k 3 (([v0, v1, v2, v3].drop 0).take (Try.prog.cellsOf 3)) = xs[0]? := hf 0 _ rfl
    have h1 : DataW.trod enc Try.prog w base spare held k 3 (([v0, v1, v2, v3].drop 1).take (Try.prog.cellsOf 3)) = xs[1]? := hf 1 _ rfl
    have h2 : DataW.trod enc Try.prog w base spare held k 3 (([v0, v1, v2, v3].drop 2).take (Try.prog.cellsOf 3)) = xs[2]? := hf 2 _ rfl
    have h3 : DataW.trod enc Try.prog w base spare held k 3 (([v0, v1, v2, v3].drop 3).take (Try.prog.cellsOf 3)) = xs[3]? := hf 3 _ rfl
    rw [List.getElem?_eq_getElem (by rw [hx]; decide)] at h0 h1 h2 h3
    simp only [c3] at h0 h1 h2 h3
    obtain ⟨m0, e0, _, w0⟩ := DataW.trod_int Try.underlying3 h0
    obtain ⟨m1, e1, _, w1⟩ := DataW.trod_int Try.underlying3 h1
    obtain ⟨m2, e2, _, w2⟩ := DataW.trod_int Try.underlying3 h2
    obtain ⟨m3, e3, _, w3⟩ := DataW.trod_int Try.underlying3 h3
    simp at e0 e1 e2 e3
    subst e0 e1 e2 e3
    exact ⟨⟨m0, m1, m2, m3⟩, rfl, wf_i64 w0, wf_i64 w1, wf_i64 w2, wf_i64 w3⟩
end Go.Proofs.Yteabdapdlfhncaa.Sx
namespace Go.Proofs.Yteabdapdlfhncaa.innerOwn
open Go.ChangeShapes Go.WideShapes Go.ChangeAt Go.RowKit Go.SX Go.Proofs.Yteabdapdlfhncaa.Sx
theorem own : ownKnob Try.prog.godebug = none := by kernel_rfl
theorem laidOut : laidOutB Try.prog = true := by kernel_rfl
set_option maxRecDepth 100000 in
theorem lifted (os : Os) (started : os.Started) (H : Type) (enc : TypeId × Value → H) :
    ReturnsInHanded {} Try.checked os 4 .any (Rows.innerOwnSpec.pre6 enc Try.prog Try.f4 Rows.innerOwnRow.domain false) (Rows.innerOwnSpec.post enc Try.prog Try.f4 false true false false) := by
  refine returnsInHanded_of_change_sized (C := Try.checked) own started (by kernel_rfl) Try.func4
    (ChangeSpec.witness6 (enc := enc) (C := Try.checked) false ⟨#[], #[.slice none 0 0, .agg #[.int .i64 0, .int .i64 0, .int .i64 0, .int .i64 0]], []⟩ 8 (by kernel_rfl) (by kernel_rfl) (by kernel_rfl) (by kernel_rfl)) ?_
  intro W base args ds gs before hval0 hW hcnd hsz0 _
  have hsz : (DataW.weightsEach Try.prog (Try.f4.params.toList ++ Rows.innerOwnSpec.plain.varTypes Try.prog) (ds ++ gs)).all (· ≤ reachBytes) = true := hsz0
  have hval : ∀ (j : Nat) t v, Try.f4.params[j]? = some t → args[j]? = some v → Value.okWide Try.prog W .any base t v := hval0
  have hW' := hW
  obtain ⟨p, q, hA0, hV, rfl, hfz, hnd⟩ := hW
  have hA : DataW.TrodAll enc Try.prog W 0 (fun _ => true) true Try.f4.params.toList args.toList ds p := hA0
  rw [Try.params4] at hA hval hsz
  obtain ⟨v0, vs0, d0, ds0, p0, q0, hargs, rfl, rfl, h0, r0⟩ := trodAll_cons hA
  obtain ⟨v1, vs1, d1, ds1, p1, q1, rfl, rfl, rfl, h1, r1⟩ := trodAll_cons r0
  obtain ⟨rfl, rfl, rfl⟩ := trodAll_nil r1
  obtain rfl : args = #[v0, v1] := by cases args; simp_all
  obtain ⟨rfl, rfl⟩ := trodVars_none hV
  obtain ⟨a0, len0, cap0, rfl⟩ := okWide_slice Try.underlying22 (hval 0 22 v0 rfl rfl)
  have k0 := h0
  have lt0 : ∀ x ∈ p0, x.block < W.heap.size := by obtain ⟨m, hm⟩ := k0; exact DataW.trod_lt m _ _ _ hm
  obtain ⟨l0, rfl, fr0, good0, _, _⟩ := arg_rows (E := eVis) 0 Try.underlying22 c36 told36 (by decide +kernel) h0 lt0 hsz rfl rfl
  have k1 := h1
  have lt1 : ∀ x ∈ p1, x.block < W.heap.size := by obtain ⟨m, hm⟩ := k1; exact DataW.trod_lt m _ _ _ hm
  obtain ⟨x1, rfl, g1⟩ : ∃ x : Mov, v1 = .agg (eMov.enc x).toArray ∧ (i64 x.c ∧ i64 x.i ∧ i64 x.j ∧ i64 x.k) := by
    have h := hval 1 24 v1 rfl rfl
    simp only [Value.okWide, Try.underlying24] at h
    obtain ⟨cs, rfl, _, _⟩ := h
    obtain ⟨m, hm⟩ := h1
    obtain ⟨x, hx, hg⟩ := told24 enc W 0 _ true m _ _ hm
    refine ⟨x, ?_, hg⟩
    simp [Value.cells] at hx
    rw [← hx]
  refine (law_calls (innerOwn a0 cap0 l0 x1.c x1.i x1.j x1.k _ _ fr0 g1.2.1 g1.2.2.1 g1.2.2.2)).mono fun e W' ⟨he, bel⟩ => ?_
  subst he
  exact ⟨_, rfl, _, _, _, [], _, [], hW', trodAll_mk1 (shut_bool Try.underlying4 _), (trodAll_cons_mk (Below.trod laidOut (by kernel_rfl) (of_decide_eq_true (by kernel_rfl)) k0 bel lt0) (trodAll_cons_mk (Below.trod laidOut (by kernel_rfl) (of_decide_eq_true (by kernel_rfl)) k1 bel lt1) trodAll_mk0)), rfl, bel.frame _, fun h => by cases h⟩
theorem over : Rows.innerOwnRow.holds Try.pinned (OpenSpec.ofChange Rows.innerOwnSpec) :=
  OpenClaim.holds_of_wide 4 Try.f4 rfl rfl rfl rfl rfl rfl rfl ⟨rfl, rfl, rfl, rfl, rfl⟩ rfl rfl rfl rfl rfl (by kernel_rfl) Try.func4 (by kernel_rfl)
    (of_decide_eq_true (by kernel_rfl)) (by unfold Func.isWrapper; first | (rw [if_pos (by decide +kernel)]; kernel_rfl) | (rw [if_neg (by decide +kernel)]; exact ⟨rfl, rfl⟩))
    (fun os started H enc _ => lifted os started H enc)
theorem proved : Rows.InnerOwnSaid := over
#print axioms proved
end Go.Proofs.Yteabdapdlfhncaa.innerOwn
namespace Go.Proofs.Yteabdapdlfhncaa
/-- The row, under a short name, for the claim. -/
theorem innerOwn_holds : Rows.InnerOwnSaid := innerOwn.proved
end Go.Proofs.Yteabdapdlfhncaa
