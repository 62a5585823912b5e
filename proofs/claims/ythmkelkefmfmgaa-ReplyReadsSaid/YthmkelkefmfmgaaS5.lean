import Derived.Test.YthmkelkefmfmgaaProg
import Derived.Test.YthmkelkefmfmgaaS4
set_option linter.unusedVariables false
set_option linter.unusedSimpArgs false
set_option linter.unusedSectionVars false
set_option maxRecDepth 20000
set_option maxHeartbeats 4000000
set_option linter.unusedVariables false
set_option linter.unusedSimpArgs false
namespace Go.Proofs.Ythmkelkefmfmgaa.Sx.FH
open Go Go.SX Go.Proofs
theorem fo52_0 : fo Try.prog 52 0 = some 0 := by kernel_rfl
theorem ty3 : ty Try.prog 3 = some (false, 1) := by kernel_rfl
theorem hbd23 : hasBody Try.prog 23 = true := by kernel_rfl
theorem fo52_6 : fo Try.prog 52 6 = some 6 := by kernel_rfl
theorem fo52_2 : fo Try.prog 52 2 = some 2 := by kernel_rfl
theorem fo52_3 : fo Try.prog 52 3 = some 3 := by kernel_rfl
theorem fo52_4 : fo Try.prog 52 4 = some 4 := by kernel_rfl
theorem fo52_5 : fo Try.prog 52 5 = some 5 := by kernel_rfl
theorem mo : Try.prog.follows .mixedOrders = true := by kernel_rfl
theorem fo52_1 : fo Try.prog 52 1 = some 1 := by kernel_rfl
theorem ty50 : ty Try.prog 50 = some (false, 1) := by kernel_rfl
theorem ty58 : ty Try.prog 58 = some (true, 9) := by kernel_rfl
theorem zf58 : (Try.prog.info? 58).bind (fun i => i.zero.map Value.cells) = some (List.toArray [.int .i64 0, .int .i64 0, .int .i64 0, .int .i64 0, .int .i64 0, .int .i64 0, .slice none 0 0, .int .i64 0, .int .i64 0]) := by kernel_rfl
theorem hbd49 : hasBody Try.prog 49 = true := by kernel_rfl
theorem ai3 : (Try.prog.info? 3).map (fun i => (i.zero, i.size, i.bytes)) = some (some (.int .i64 0), 1, 8) := by kernel_rfl
theorem hbd27 : hasBody Try.prog 27 = true := by kernel_rfl
theorem ai69 : (Try.prog.info? 69).map (fun i => (i.zero, i.size, i.bytes)) = some (some (.agg #[.string ⟨#[]⟩, .int .i64 0]), 2, 24) := by kernel_rfl
theorem hbd21 : hasBody Try.prog 21 = true := by kernel_rfl
end Go.Proofs.Ythmkelkefmfmgaa.Sx.FH
namespace Go.Proofs.Ythmkelkefmfmgaa.Sx
open Go Go.SX Go.Proofs FH
theorem mplan (g : Nat) (v : Value) (l : List TV) (ve : Int) (sA : Option Addr) (sc : Nat) (steps : List ST) (tm : Int) (ds : Int) (wt : Int) (sv : Int) (co : Int) (S : Nat → Prop) (wf : World) (hA : Fr eST S wf sA steps) (hN : NS S wf steps) (hl : l.length ≤ 1580000000000) (hs : steps.length ≤ 8192) (hS : ∀ s ∈ steps, (-9223372036854775808 < s.kind ∧ s.kind ≤ 9223372036854775807) ∧ s.load.length ≤ 8192) :
  TR0 Try.prog 26 [.pointer (some ⟨g, 0, none⟩), .agg #[.int .i64 ve, .slice sA steps.length sc, .int .i64 tm, .int .i64 ds, .int .i64 wt, .int .i64 sv, .int .i64 co]] [cel g [v] 65, rw_ eTV 90 (v) l] S wf (fun v_ C_ => ∃ (u : Value) (L : List TV) (M : List TV), (L = l ++ M) ∧ (vs M = planF l.length (PV.mk ve steps tm ds wt sv co sA sc)) ∧ (M.length ≤ 67200000) ∧ v_ = .int .i64 ((L.length : Int) - 1) ∧ C_ = [cel g [u] 65, rw_ eTV 90 (u) L, nest 9 3 M]) := by
 have hla := hA.len
 refine TR.mk Try.func26 rfl Try.ntmps26 rfl rfl (fun w_ => ?_)
 refine .seq ?_
 refine .region ?_
 refine .cons (st_boxa rfl rfl rfl rfl rfl (fun b1 => ?_))
 refine .ev (ev_as rfl rfl) rfl rfl rfl ?_
 refine .go (fun _ _ h => h) ?_
 refine .seq ?_
 refine SC.draw mo [cel g [v] 65, rw_ eTV 90 (v) l] [] (.c (.t .h) (.c (.t .h) .n)) (fun _ _ _ c hc => by cases hc) (fun wf_2 hl_2 hx_2 hR_2 => ?_)
 refine SR.tk 0 rfl (by kernel_rfl) rfl rfl rfl (ev_mv rfl rfl) ?_
 refine SR.tk 1 rfl (by kernel_rfl) rfl rfl rfl (ev_fa rfl fo52_0 rfl (r := 0) rfl) ?_
 refine SR.tk 2 rfl (by kernel_rfl) rfl rfl rfl (ev_ld1 rfl ty3 rfl (At.d (At.lent hR_2 0 rfl rfl))) ?_
 refine SR.tk 5 rfl (by kernel_rfl) rfl rfl rfl (ev_mv rfl rfl) ?_
 refine SR.tk 6 rfl (by kernel_rfl) rfl rfl rfl (ev_fa rfl fo52_6 rfl (r := 6) rfl) ?_
 refine SR.tk 7 rfl (by kernel_rfl) rfl rfl rfl (ev_ld1 rfl ty3 rfl (At.d (At.lent hR_2 0 rfl rfl))) ?_
 refine SR.tk 10 rfl (by kernel_rfl) rfl rfl rfl (ev_mv rfl rfl) ?_
 refine SR.tk 11 rfl (by kernel_rfl) rfl rfl rfl (ev_fa rfl fo52_2 rfl (r := 2) rfl) ?_
 refine SR.tk 12 rfl (by kernel_rfl) rfl rfl rfl (ev_ld1 rfl ty3 rfl (At.d (At.lent hR_2 0 rfl rfl))) ?_
 refine SR.tk 15 rfl (by kernel_rfl) rfl rfl rfl (ev_mv rfl rfl) ?_
 refine SR.tk 16 rfl (by kernel_rfl) rfl rfl rfl (ev_fa rfl fo52_3 rfl (r := 3) rfl) ?_
 refine SR.tk 17 rfl (by kernel_rfl) rfl rfl rfl (ev_ld1 rfl ty3 rfl (At.d (At.lent hR_2 0 rfl rfl))) ?_
 refine SR.tk 20 rfl (by kernel_rfl) rfl rfl rfl (ev_mv rfl rfl) ?_
 refine SR.tk 21 rfl (by kernel_rfl) rfl rfl rfl (ev_fa rfl fo52_4 rfl (r := 4) rfl) ?_
 refine SR.tk 22 rfl (by kernel_rfl) rfl rfl rfl (ev_ld1 rfl ty3 rfl (At.d (At.lent hR_2 0 rfl rfl))) ?_
 refine SR.tk 25 rfl (by kernel_rfl) rfl rfl rfl (ev_mv rfl rfl) ?_
 refine SR.tk 26 rfl (by kernel_rfl) rfl rfl rfl (ev_fa rfl fo52_5 rfl (r := 5) rfl) ?_
 refine SR.tk 27 rfl (by kernel_rfl) rfl rfl rfl (ev_ld1 rfl ty3 rfl (At.d (At.lent hR_2 0 rfl rfl))) ?_
 refine SR.one (j := 3) (by kernel_rfl) rfl (st_call0 rfl rfl rfl rfl hbd23 rfl (.c .h (.c .h .n)) (mnum g v l ve _ _ (by first | ((try simp only [LL]) <;> omega) | omega | (simp <;> omega))) (fun v_q4 C_q4 q4 => ⟨tt0, ?_⟩))
 obtain ⟨u3, rfl, rfl⟩ := q4
 show SR _ _ _ _ _ _ _ _ _ ⟨_, _ :: _ :: _, _, _⟩
 refine SR.tk 4 rfl (by kernel_rfl) rfl rfl rfl (ev_any (v := .agg #[.string ⟨#[118, 101, 104, 105, 99, 108, 101]⟩, .int .i64 (l.length : Int)]) rfl (by kernel_rfl) (fun _ => by kernel_rfl)) ?_
 refine SR.one (j := 8) (by kernel_rfl) rfl (st_call0 rfl rfl rfl rfl hbd23 rfl (.c .h (.c .h .n)) (mnum g u3 (l ++ [TV.mk (TN.mk 3 false ve ⟨#[]⟩ [] []) none 0 none 0]) co _ _ (by first | ((try simp only [LL]) <;> omega) | omega | (simp <;> omega))) (fun v_q6 C_q6 q6 => ⟨tt0, ?_⟩))
 obtain ⟨u5, rfl, rfl⟩ := q6
 show SR _ _ _ _ _ _ _ _ _ ⟨_, _ :: _ :: _, _, _⟩
 refine SR.tk 9 rfl (by kernel_rfl) rfl rfl rfl (ev_any (v := .agg #[.string ⟨#[99, 111, 115, 116]⟩, .int .i64 ((l ++ [TV.mk (TN.mk 3 false ve ⟨#[]⟩ [] []) none 0 none 0]).length : Int)]) rfl (by kernel_rfl) (fun _ => by kernel_rfl)) ?_
 refine SR.one (j := 13) (by kernel_rfl) rfl (st_call0 rfl rfl rfl rfl hbd23 rfl (.c .h (.c .h .n)) (mnum g u5 ((l ++ [TV.mk (TN.mk 3 false ve ⟨#[]⟩ [] []) none 0 none 0]) ++ [TV.mk (TN.mk 3 false co ⟨#[]⟩ [] []) none 0 none 0]) tm _ _ (by first | ((try simp only [LL]) <;> omega) | omega | (simp <;> omega))) (fun v_q8 C_q8 q8 => ⟨tt0, ?_⟩))
 obtain ⟨u7, rfl, rfl⟩ := q8
 show SR _ _ _ _ _ _ _ _ _ ⟨_, _ :: _ :: _, _, _⟩
 refine SR.tk 14 rfl (by kernel_rfl) rfl rfl rfl (ev_any (v := .agg #[.string ⟨#[116, 105, 109, 101]⟩, .int .i64 (((l ++ [TV.mk (TN.mk 3 false ve ⟨#[]⟩ [] []) none 0 none 0]) ++ [TV.mk (TN.mk 3 false co ⟨#[]⟩ [] []) none 0 none 0]).length : Int)]) rfl (by kernel_rfl) (fun _ => by kernel_rfl)) ?_
 refine SR.one (j := 18) (by kernel_rfl) rfl (st_call0 rfl rfl rfl rfl hbd23 rfl (.c .h (.c .h .n)) (mnum g u7 (((l ++ [TV.mk (TN.mk 3 false ve ⟨#[]⟩ [] []) none 0 none 0]) ++ [TV.mk (TN.mk 3 false co ⟨#[]⟩ [] []) none 0 none 0]) ++ [TV.mk (TN.mk 3 false tm ⟨#[]⟩ [] []) none 0 none 0]) ds _ _ (by first | ((try simp only [LL]) <;> omega) | omega | (simp <;> omega))) (fun v_q10 C_q10 q10 => ⟨tt0, ?_⟩))
 obtain ⟨u9, rfl, rfl⟩ := q10
 show SR _ _ _ _ _ _ _ _ _ ⟨_, _ :: _ :: _, _, _⟩
 refine SR.tk 19 rfl (by kernel_rfl) rfl rfl rfl (ev_any (v := .agg #[.string ⟨#[100, 105, 115, 116]⟩, .int .i64 ((((l ++ [TV.mk (TN.mk 3 false ve ⟨#[]⟩ [] []) none 0 none 0]) ++ [TV.mk (TN.mk 3 false co ⟨#[]⟩ [] []) none 0 none 0]) ++ [TV.mk (TN.mk 3 false tm ⟨#[]⟩ [] []) none 0 none 0]).length : Int)]) rfl (by kernel_rfl) (fun _ => by kernel_rfl)) ?_
 refine SR.one (j := 23) (by kernel_rfl) rfl (st_call0 rfl rfl rfl rfl hbd23 rfl (.c .h (.c .h .n)) (mnum g u9 ((((l ++ [TV.mk (TN.mk 3 false ve ⟨#[]⟩ [] []) none 0 none 0]) ++ [TV.mk (TN.mk 3 false co ⟨#[]⟩ [] []) none 0 none 0]) ++ [TV.mk (TN.mk 3 false tm ⟨#[]⟩ [] []) none 0 none 0]) ++ [TV.mk (TN.mk 3 false ds ⟨#[]⟩ [] []) none 0 none 0]) wt _ _ (by first | ((try simp only [LL]) <;> omega) | omega | (simp <;> omega))) (fun v_q12 C_q12 q12 => ⟨tt0, ?_⟩))
 obtain ⟨u11, rfl, rfl⟩ := q12
 show SR _ _ _ _ _ _ _ _ _ ⟨_, _ :: _ :: _, _, _⟩
 refine SR.tk 24 rfl (by kernel_rfl) rfl rfl rfl (ev_any (v := .agg #[.string ⟨#[119, 97, 105, 116]⟩, .int .i64 (((((l ++ [TV.mk (TN.mk 3 false ve ⟨#[]⟩ [] []) none 0 none 0]) ++ [TV.mk (TN.mk 3 false co ⟨#[]⟩ [] []) none 0 none 0]) ++ [TV.mk (TN.mk 3 false tm ⟨#[]⟩ [] []) none 0 none 0]) ++ [TV.mk (TN.mk 3 false ds ⟨#[]⟩ [] []) none 0 none 0]).length : Int)]) rfl (by kernel_rfl) (fun _ => by kernel_rfl)) ?_
 refine SR.one (j := 28) (by kernel_rfl) rfl (st_call0 rfl rfl rfl rfl hbd23 rfl (.c .h (.c .h .n)) (mnum g u11 (((((l ++ [TV.mk (TN.mk 3 false ve ⟨#[]⟩ [] []) none 0 none 0]) ++ [TV.mk (TN.mk 3 false co ⟨#[]⟩ [] []) none 0 none 0]) ++ [TV.mk (TN.mk 3 false tm ⟨#[]⟩ [] []) none 0 none 0]) ++ [TV.mk (TN.mk 3 false ds ⟨#[]⟩ [] []) none 0 none 0]) ++ [TV.mk (TN.mk 3 false wt ⟨#[]⟩ [] []) none 0 none 0]) sv _ _ (by first | ((try simp only [LL]) <;> omega) | omega | (simp <;> omega))) (fun v_q14 C_q14 q14 => ⟨tt0, ?_⟩))
 obtain ⟨u13, rfl, rfl⟩ := q14
 show SR _ _ _ _ _ _ _ _ _ ⟨_, _ :: _ :: _, _, _⟩
 refine SR.tk 29 rfl (by kernel_rfl) rfl rfl rfl (ev_any (v := .agg #[.string ⟨#[115, 101, 114, 118, 105, 99, 101]⟩, .int .i64 ((((((l ++ [TV.mk (TN.mk 3 false ve ⟨#[]⟩ [] []) none 0 none 0]) ++ [TV.mk (TN.mk 3 false co ⟨#[]⟩ [] []) none 0 none 0]) ++ [TV.mk (TN.mk 3 false tm ⟨#[]⟩ [] []) none 0 none 0]) ++ [TV.mk (TN.mk 3 false ds ⟨#[]⟩ [] []) none 0 none 0]) ++ [TV.mk (TN.mk 3 false wt ⟨#[]⟩ [] []) none 0 none 0]).length : Int)]) rfl (by kernel_rfl) (fun _ => by kernel_rfl)) ?_
 refine SR.one (j := 30) (by kernel_rfl) rfl (st_lit ePr (e := 69) (l := [(Pr.mk ⟨#[118, 101, 104, 105, 99, 108, 101]⟩ (l.length : Int)), (Pr.mk ⟨#[99, 111, 115, 116]⟩ ((l ++ [TV.mk (TN.mk 3 false ve ⟨#[]⟩ [] []) none 0 none 0]).length : Int)), (Pr.mk ⟨#[116, 105, 109, 101]⟩ (((l ++ [TV.mk (TN.mk 3 false ve ⟨#[]⟩ [] []) none 0 none 0]) ++ [TV.mk (TN.mk 3 false co ⟨#[]⟩ [] []) none 0 none 0]).length : Int)), (Pr.mk ⟨#[100, 105, 115, 116]⟩ ((((l ++ [TV.mk (TN.mk 3 false ve ⟨#[]⟩ [] []) none 0 none 0]) ++ [TV.mk (TN.mk 3 false co ⟨#[]⟩ [] []) none 0 none 0]) ++ [TV.mk (TN.mk 3 false tm ⟨#[]⟩ [] []) none 0 none 0]).length : Int)), (Pr.mk ⟨#[119, 97, 105, 116]⟩ (((((l ++ [TV.mk (TN.mk 3 false ve ⟨#[]⟩ [] []) none 0 none 0]) ++ [TV.mk (TN.mk 3 false co ⟨#[]⟩ [] []) none 0 none 0]) ++ [TV.mk (TN.mk 3 false tm ⟨#[]⟩ [] []) none 0 none 0]) ++ [TV.mk (TN.mk 3 false ds ⟨#[]⟩ [] []) none 0 none 0]).length : Int)), (Pr.mk ⟨#[115, 101, 114, 118, 105, 99, 101]⟩ ((((((l ++ [TV.mk (TN.mk 3 false ve ⟨#[]⟩ [] []) none 0 none 0]) ++ [TV.mk (TN.mk 3 false co ⟨#[]⟩ [] []) none 0 none 0]) ++ [TV.mk (TN.mk 3 false tm ⟨#[]⟩ [] []) none 0 none 0]) ++ [TV.mk (TN.mk 3 false ds ⟨#[]⟩ [] []) none 0 none 0]) ++ [TV.mk (TN.mk 3 false wt ⟨#[]⟩ [] []) none 0 none 0]).length : Int))]) rfl rfl rfl rfl (by kernel_rfl) rfl rfl (fun w => by kernel_rfl) (fun b15 => ⟨tt0, ?_⟩))
 refine SR.tk 31 rfl (by kernel_rfl) rfl rfl rfl (ev_as rfl rfl) ?_
 refine SR.fin (by kernel_rfl) hl_2 hx_2 hR_2 (.c (.c (.c .n))) ?_
 refine SQ.go (fun _ _ h => h) ?_
 refine .seq ?_
 refine .region ?_
 refine .ev (ev_as rfl rfl) rfl rfl rfl ?_
 refine .go (fun _ _ h => h) ?_
 refine .seq ?_
 refine .seq ?_
 refine SC.nilrow eZ 3 ?_
 refine SC.nest0 9 3 ?_
 refine .region ?_
 refine .ev (ev_fa rfl fo52_1 rfl (r := 1) rfl) rfl rfl rfl ?_
 refine .ev (ev_ld1 rfl ty50 rfl (At.own1 5 rfl rfl)) rfl rfl rfl ?_
 refine .ev (ev_len rfl Try.underlying50 rfl) rfl rfl rfl ?_
 refine .ev (ev_mv rfl rfl) rfl rfl rfl ?_
 refine .go (fun _ _ h => h) ?_
 refine .block ?_
 refine .loop (X := Int × Value × Value × (List TV) × (List TV) × (List Int)) (fun ⟨i, W, KV, LL, M, X⟩ => 0 ≤ i ∧ i ≤ steps.length ∧ LL = ((((((l ++ [TV.mk (TN.mk 3 false ve ⟨#[]⟩ [] []) none 0 none 0]) ++ [TV.mk (TN.mk 3 false co ⟨#[]⟩ [] []) none 0 none 0]) ++ [TV.mk (TN.mk 3 false tm ⟨#[]⟩ [] []) none 0 none 0]) ++ [TV.mk (TN.mk 3 false ds ⟨#[]⟩ [] []) none 0 none 0]) ++ [TV.mk (TN.mk 3 false wt ⟨#[]⟩ [] []) none 0 none 0]) ++ [TV.mk (TN.mk 3 false sv ⟨#[]⟩ [] []) none 0 none 0]) ++ M ∧ stepsF (((((((l ++ [TV.mk (TN.mk 3 false ve ⟨#[]⟩ [] []) none 0 none 0]) ++ [TV.mk (TN.mk 3 false co ⟨#[]⟩ [] []) none 0 none 0]) ++ [TV.mk (TN.mk 3 false tm ⟨#[]⟩ [] []) none 0 none 0]) ++ [TV.mk (TN.mk 3 false ds ⟨#[]⟩ [] []) none 0 none 0]) ++ [TV.mk (TN.mk 3 false wt ⟨#[]⟩ [] []) none 0 none 0]) ++ [TV.mk (TN.mk 3 false sv ⟨#[]⟩ [] []) none 0 none 0])).length (steps.take i.toNat) ([], []) = (vs M, X) ∧ (LL.length : Int) = l.length + 6 + M.length ∧ (X.length : Int) = i ∧ (M.length : Int) ≤ 8202 * i) (fun ⟨i, W, KV, LL, M, X⟩ => [(0, .pointer (some ⟨g, 0, none⟩)), (5, .slice (some ⟨b15, 0, none⟩) 6 6), (6, KV), (41, .slice sA steps.length sc), (42, .int .i64 (steps.length : Int)), (43, .int .i64 i)]) (fun ⟨i, W, KV, LL, M, X⟩ => [cel g [W] 65, rw_ eTV 90 (W) LL, nest 9 3 M, rw_ eZ 3 (KV) X, rw_ ePr 69 (.slice (some ⟨b15, 0, none⟩) 6 6) [(Pr.mk ⟨#[118, 101, 104, 105, 99, 108, 101]⟩ (l.length : Int)), (Pr.mk ⟨#[99, 111, 115, 116]⟩ ((l ++ [TV.mk (TN.mk 3 false ve ⟨#[]⟩ [] []) none 0 none 0]).length : Int)), (Pr.mk ⟨#[116, 105, 109, 101]⟩ (((l ++ [TV.mk (TN.mk 3 false ve ⟨#[]⟩ [] []) none 0 none 0]) ++ [TV.mk (TN.mk 3 false co ⟨#[]⟩ [] []) none 0 none 0]).length : Int)), (Pr.mk ⟨#[100, 105, 115, 116]⟩ ((((l ++ [TV.mk (TN.mk 3 false ve ⟨#[]⟩ [] []) none 0 none 0]) ++ [TV.mk (TN.mk 3 false co ⟨#[]⟩ [] []) none 0 none 0]) ++ [TV.mk (TN.mk 3 false tm ⟨#[]⟩ [] []) none 0 none 0]).length : Int)), (Pr.mk ⟨#[119, 97, 105, 116]⟩ (((((l ++ [TV.mk (TN.mk 3 false ve ⟨#[]⟩ [] []) none 0 none 0]) ++ [TV.mk (TN.mk 3 false co ⟨#[]⟩ [] []) none 0 none 0]) ++ [TV.mk (TN.mk 3 false tm ⟨#[]⟩ [] []) none 0 none 0]) ++ [TV.mk (TN.mk 3 false ds ⟨#[]⟩ [] []) none 0 none 0]).length : Int)), (Pr.mk ⟨#[115, 101, 114, 118, 105, 99, 101]⟩ ((((((l ++ [TV.mk (TN.mk 3 false ve ⟨#[]⟩ [] []) none 0 none 0]) ++ [TV.mk (TN.mk 3 false co ⟨#[]⟩ [] []) none 0 none 0]) ++ [TV.mk (TN.mk 3 false tm ⟨#[]⟩ [] []) none 0 none 0]) ++ [TV.mk (TN.mk 3 false ds ⟨#[]⟩ [] []) none 0 none 0]) ++ [TV.mk (TN.mk 3 false wt ⟨#[]⟩ [] []) none 0 none 0]).length : Int))]]) (fun _ => S) (fun _ => wf) (fun ⟨i, W, KV, LL, M, X⟩ => (steps.length - i.toNat)) (fun a_ w_ hs_ hw_ => ⟨⟨0, u13, (.slice none 0 0), ((((((l ++ [TV.mk (TN.mk 3 false ve ⟨#[]⟩ [] []) none 0 none 0]) ++ [TV.mk (TN.mk 3 false co ⟨#[]⟩ [] []) none 0 none 0]) ++ [TV.mk (TN.mk 3 false tm ⟨#[]⟩ [] []) none 0 none 0]) ++ [TV.mk (TN.mk 3 false ds ⟨#[]⟩ [] []) none 0 none 0]) ++ [TV.mk (TN.mk 3 false wt ⟨#[]⟩ [] []) none 0 none 0]) ++ [TV.mk (TN.mk 3 false sv ⟨#[]⟩ [] []) none 0 none 0]), ([] : List TV), ([] : List Int)⟩, (by exact ⟨by omega, by omega, by simp, rfl, by simp, rfl, by simp⟩), hs_.mono (Sub.get (.c rfl (.c rfl (.c rfl (.c rfl (.c rfl (.c rfl .n))))))), hw_.keep (.c (.t (.t (.t .h))) (.c (.t (.t (.t .h))) (.c .h (.c .h (.c .h .n)))))⟩) (fun ⟨i, W, KV, LL, M, X⟩ ⟨q_0, q_1, q_2, q_3, q_4, q_5, q_6⟩ => ?_)
 show SC _ _ _ _ _ ⟨[(0, .pointer (some ⟨g, 0, none⟩)), (5, .slice (some ⟨b15, 0, none⟩) 6 6), (6, KV), (41, .slice sA steps.length sc), (42, .int .i64 (steps.length : Int)), (43, .int .i64 i)], [cel g [W] 65, rw_ eTV 90 (W) LL, nest 9 3 M, rw_ eZ 3 (KV) X, rw_ ePr 69 (.slice (some ⟨b15, 0, none⟩) 6 6) [(Pr.mk ⟨#[118, 101, 104, 105, 99, 108, 101]⟩ (l.length : Int)), (Pr.mk ⟨#[99, 111, 115, 116]⟩ ((l ++ [TV.mk (TN.mk 3 false ve ⟨#[]⟩ [] []) none 0 none 0]).length : Int)), (Pr.mk ⟨#[116, 105, 109, 101]⟩ (((l ++ [TV.mk (TN.mk 3 false ve ⟨#[]⟩ [] []) none 0 none 0]) ++ [TV.mk (TN.mk 3 false co ⟨#[]⟩ [] []) none 0 none 0]).length : Int)), (Pr.mk ⟨#[100, 105, 115, 116]⟩ ((((l ++ [TV.mk (TN.mk 3 false ve ⟨#[]⟩ [] []) none 0 none 0]) ++ [TV.mk (TN.mk 3 false co ⟨#[]⟩ [] []) none 0 none 0]) ++ [TV.mk (TN.mk 3 false tm ⟨#[]⟩ [] []) none 0 none 0]).length : Int)), (Pr.mk ⟨#[119, 97, 105, 116]⟩ (((((l ++ [TV.mk (TN.mk 3 false ve ⟨#[]⟩ [] []) none 0 none 0]) ++ [TV.mk (TN.mk 3 false co ⟨#[]⟩ [] []) none 0 none 0]) ++ [TV.mk (TN.mk 3 false tm ⟨#[]⟩ [] []) none 0 none 0]) ++ [TV.mk (TN.mk 3 false ds ⟨#[]⟩ [] []) none 0 none 0]).length : Int)), (Pr.mk ⟨#[115, 101, 114, 118, 105, 99, 101]⟩ ((((((l ++ [TV.mk (TN.mk 3 false ve ⟨#[]⟩ [] []) none 0 none 0]) ++ [TV.mk (TN.mk 3 false co ⟨#[]⟩ [] []) none 0 none 0]) ++ [TV.mk (TN.mk 3 false tm ⟨#[]⟩ [] []) none 0 none 0]) ++ [TV.mk (TN.mk 3 false ds ⟨#[]⟩ [] []) none 0 none 0]) ++ [TV.mk (TN.mk 3 false wt ⟨#[]⟩ [] []) none 0 none 0]).length : Int))]], S, wf⟩
 refine .seq ?_
 refine .region ?_
 refine .ev (ev_cmp rfl rfl rfl rfl) rfl rfl rfl ?_
 refine .go (fun _ _ h => h) ?_
 refine .seq ?_
 refine .condI rfl bD (fun h16 => ?_) (fun h16 => ?_)
 ·
  refine .skipgo (fun _ _ h => h) ?_
  refine .seq ?_
  refine .block ?_
  refine .seq ?_
  refine .region ?_
  refine .ev (ev_ix rfl Try.underlying50 ty58 rfl rfl (by omega) (by omega) (fun _ _ => Fr.adr (i := i) hA (by omega) (by omega))) rfl rfl rfl ?_
  refine .ev (ev_lda rfl rfl (At.w (Fr.el (i := i) hA (by omega) (by omega))) ty58) rfl rfl rfl ?_
  refine .cons (st_alloc rfl rfl rfl rfl zf58 (fun b17 => ?_))
  refine .cons (st_storea (l' := [.int .i64 ((gt steps i).kind), .int .i64 ((gt steps i).item), .int .i64 ((gt steps i).place), .int .i64 ((gt steps i).arr), .int .i64 ((gt steps i).wait), .int .i64 ((gt steps i).serv), .slice ((gt steps i).lA) ((gt steps i).load.length) ((gt steps i).lc), .int .i64 ((gt steps i).time), .int .i64 ((gt steps i).dist)]) rfl rfl rfl ty58 rfl rfl rfl .h rfl rfl ?_)
  refine .go (fun _ _ h => h) ?_
  refine .region ?_
  refine .ev (ev_mv rfl rfl) rfl rfl rfl ?_
  refine .ev (ev_mv rfl rfl) rfl rfl rfl ?_
  refine .ev (ev_lda rfl rfl (At.whole 0 rfl) ty58) rfl rfl rfl ?_
  refine .cons (st_call0 rfl rfl rfl rfl hbd49 rfl (.c (.t .h) (.c (.t .h) .n)) (mstep g W LL ((gt steps i).kind) ((gt steps i).item) ((gt steps i).place) ((gt steps i).arr) ((gt steps i).wait) ((gt steps i).serv) ((gt steps i).lA) ((gt steps i).lc) ((gt steps i).load) ((gt steps i).time) ((gt steps i).dist) _ _ (hN _ (gt_mem (i := i) (by omega) (by omega))) (by first | ((try simp only [LL]) <;> omega) | omega | (simp <;> omega)) (hS _ (gt_mem (i := i) (by omega) (by omega))).1 (by have h_ := (hS _ (gt_mem (i := i) (by omega) (by omega))).2; omega)) (fun v_q21 C_q21 q21 => ?_))
  obtain ⟨u18, L19, M20, p22, p23, rfl, rfl⟩ := q21
  show SP _ _ _ _ _ _ ⟨_, _ :: _ :: _ :: _, _, _⟩
  subst p22
  have hM24 : M20.length = ((gt steps i).load).length + 10 := (vs_len M20).symm.trans ((congrArg List.length p23).trans (stepF_len _ _))
  refine .cons (st_lit eZ (e := 3) (l := [((LL.length : Int) + ((gt steps i).load).length + 9)]) rfl rfl rfl rfl (by kernel_rfl) rfl rfl (fun w => by kernel_rfl) (fun b25 => ?_))
  refine .cons (st_app (E := eZ) (m := [((LL.length : Int) + ((gt steps i).load).length + 9)]) rfl rfl rfl rfl Try.underlying56 ai3 rfl rfl rfl (.t (.t (.t (.t (.t (.t .h)))))) (by first | rfl | omega | simp) (row_src 0 rfl) (by first | ((try simp only [LL]) <;> omega) | omega | (simp <;> omega)) rfl (fun v26 => ?_))
  refine .ev (ev_as rfl rfl) rfl rfl rfl ?_
  refine .go (fun _ _ h => h) ?_
  refine SC.nestapp (.c (.t (.t (.t (.t (.t (.t .h)))))) (.c (.t (.t (.t (.t .h)))) .n)) ?_
  refine .region ?_
  refine .ev (ev_add rfl rfl rfl (r := (i + 1)) rfl (by omega) (by omega)) rfl rfl rfl ?_
  refine .ev (ev_mv rfl rfl) rfl rfl rfl ?_
  exact SP.nil (SQ.roundb (X := Int × Value × Value × (List TV) × (List TV) × (List Int)) (x := (i, W, KV, LL, M, X)) ⟨(i + 1), u18, v26, (LL ++ M20), (M ++ M20), (X ++ [((LL.length : Int) + ((gt steps i).load).length + 9)])⟩ (by exact ⟨by omega, by omega, by rw [q_2, List.append_assoc], steps_next q_3 p23 (by simp only [List.length_append, List.length_cons, List.length_nil]; omega) (by simp <;> omega) (by omega) (by omega), by simp only [List.length_append]; omega, by rw [List.length_append]; simp; omega, by have h_ := (hS _ (gt_mem (i := i) (by omega) (by omega))).2; rw [List.length_append]; omega⟩) (by dsimp only; omega) (Sub.get (.c rfl (.c rfl (.c rfl (.c rfl (.c rfl (.c rfl .n))))))) (fun w hw => hw.keep (.c (.t (.t (.t .h))) (.c (.t (.t (.t .h))) (.c .h (.c .h (.c (.t (.t .h)) .n)))))))
 ·
  refine .exit (fun _ _ h => h) ?_
  refine .seq ?_
  refine .region ?_
  refine .ev (ev_mv rfl rfl) rfl rfl rfl ?_
  refine .ev (ev_mv rfl rfl) rfl rfl rfl ?_
  refine .ev (ev_mv rfl rfl) rfl rfl rfl ?_
  refine .ev (ev_mv rfl rfl) rfl rfl rfl ?_
  refine .know (row_len 3 rfl) (fun hv29 => ?_)
  obtain ⟨A27, c28, rfl, hv29_1, hv29_2⟩ := hv29
  unfold maxLen at hv29_2
  refine .cons (st_call0 rfl rfl rfl rfl hbd27 rfl (.c .h (.c .h .n)) (mlist g W LL A27 c28 X _ _ (by first | ((try simp only [LL]) <;> omega) | omega | (simp <;> omega))) (fun v_q31 C_q31 q31 => ?_))
  obtain ⟨u30, rfl, rfl⟩ := q31
  show SP _ _ _ _ _ _ ⟨_, _ :: _ :: _, _, _⟩
  refine .ev (ev_any (v := .agg #[.string ⟨#[115, 116, 101, 112, 115]⟩, .int .i64 (LL.length : Int)]) rfl (by kernel_rfl) (fun _ => by kernel_rfl)) rfl rfl rfl ?_
  refine .cons (st_lit ePr (e := 69) (l := [(Pr.mk ⟨#[115, 116, 101, 112, 115]⟩ (LL.length : Int))]) rfl rfl rfl rfl (by kernel_rfl) rfl rfl (fun w => by kernel_rfl) (fun b32 => ?_))
  refine .cons (st_app (E := ePr) (m := [(Pr.mk ⟨#[115, 116, 101, 112, 115]⟩ (LL.length : Int))]) rfl rfl rfl rfl Try.underlying99 ai69 rfl rfl rfl (.t (.t (.t (.t (.t .h))))) (by first | rfl | omega | simp) (row_src 0 rfl) (by first | ((try simp only [LL]) <;> omega) | omega | (simp <;> omega)) rfl (fun v33 => ?_))
  refine .know (row_len 0 rfl) (fun hv36 => ?_)
  obtain ⟨A34, c35, rfl, hv36_1, hv36_2⟩ := hv36
  unfold maxLen at hv36_2
  refine .cons (st_lend0 rfl rfl rfl rfl hbd21 rfl (.c (.t (.t .h)) (.c (.t (.t .h)) .n)) (.c .h .n) (fun w_ hw => mobject g u30 (LL ++ [TV.mk (TN.mk 5 false 0 ⟨#[]⟩ [] X) none 0 A27 c28]) A34 (([(Pr.mk ⟨#[118, 101, 104, 105, 99, 108, 101]⟩ (l.length : Int)), (Pr.mk ⟨#[99, 111, 115, 116]⟩ ((l ++ [TV.mk (TN.mk 3 false ve ⟨#[]⟩ [] []) none 0 none 0]).length : Int)), (Pr.mk ⟨#[116, 105, 109, 101]⟩ (((l ++ [TV.mk (TN.mk 3 false ve ⟨#[]⟩ [] []) none 0 none 0]) ++ [TV.mk (TN.mk 3 false co ⟨#[]⟩ [] []) none 0 none 0]).length : Int)), (Pr.mk ⟨#[100, 105, 115, 116]⟩ ((((l ++ [TV.mk (TN.mk 3 false ve ⟨#[]⟩ [] []) none 0 none 0]) ++ [TV.mk (TN.mk 3 false co ⟨#[]⟩ [] []) none 0 none 0]) ++ [TV.mk (TN.mk 3 false tm ⟨#[]⟩ [] []) none 0 none 0]).length : Int)), (Pr.mk ⟨#[119, 97, 105, 116]⟩ (((((l ++ [TV.mk (TN.mk 3 false ve ⟨#[]⟩ [] []) none 0 none 0]) ++ [TV.mk (TN.mk 3 false co ⟨#[]⟩ [] []) none 0 none 0]) ++ [TV.mk (TN.mk 3 false tm ⟨#[]⟩ [] []) none 0 none 0]) ++ [TV.mk (TN.mk 3 false ds ⟨#[]⟩ [] []) none 0 none 0]).length : Int)), (Pr.mk ⟨#[115, 101, 114, 118, 105, 99, 101]⟩ ((((((l ++ [TV.mk (TN.mk 3 false ve ⟨#[]⟩ [] []) none 0 none 0]) ++ [TV.mk (TN.mk 3 false co ⟨#[]⟩ [] []) none 0 none 0]) ++ [TV.mk (TN.mk 3 false tm ⟨#[]⟩ [] []) none 0 none 0]) ++ [TV.mk (TN.mk 3 false ds ⟨#[]⟩ [] []) none 0 none 0]) ++ [TV.mk (TN.mk 3 false wt ⟨#[]⟩ [] []) none 0 none 0]).length : Int))] ++ [(Pr.mk ⟨#[115, 116, 101, 112, 115]⟩ (LL.length : Int))]).length) c35 ([(Pr.mk ⟨#[118, 101, 104, 105, 99, 108, 101]⟩ (l.length : Int)), (Pr.mk ⟨#[99, 111, 115, 116]⟩ ((l ++ [TV.mk (TN.mk 3 false ve ⟨#[]⟩ [] []) none 0 none 0]).length : Int)), (Pr.mk ⟨#[116, 105, 109, 101]⟩ (((l ++ [TV.mk (TN.mk 3 false ve ⟨#[]⟩ [] []) none 0 none 0]) ++ [TV.mk (TN.mk 3 false co ⟨#[]⟩ [] []) none 0 none 0]).length : Int)), (Pr.mk ⟨#[100, 105, 115, 116]⟩ ((((l ++ [TV.mk (TN.mk 3 false ve ⟨#[]⟩ [] []) none 0 none 0]) ++ [TV.mk (TN.mk 3 false co ⟨#[]⟩ [] []) none 0 none 0]) ++ [TV.mk (TN.mk 3 false tm ⟨#[]⟩ [] []) none 0 none 0]).length : Int)), (Pr.mk ⟨#[119, 97, 105, 116]⟩ (((((l ++ [TV.mk (TN.mk 3 false ve ⟨#[]⟩ [] []) none 0 none 0]) ++ [TV.mk (TN.mk 3 false co ⟨#[]⟩ [] []) none 0 none 0]) ++ [TV.mk (TN.mk 3 false tm ⟨#[]⟩ [] []) none 0 none 0]) ++ [TV.mk (TN.mk 3 false ds ⟨#[]⟩ [] []) none 0 none 0]).length : Int)), (Pr.mk ⟨#[115, 101, 114, 118, 105, 99, 101]⟩ ((((((l ++ [TV.mk (TN.mk 3 false ve ⟨#[]⟩ [] []) none 0 none 0]) ++ [TV.mk (TN.mk 3 false co ⟨#[]⟩ [] []) none 0 none 0]) ++ [TV.mk (TN.mk 3 false tm ⟨#[]⟩ [] []) none 0 none 0]) ++ [TV.mk (TN.mk 3 false ds ⟨#[]⟩ [] []) none 0 none 0]) ++ [TV.mk (TN.mk 3 false wt ⟨#[]⟩ [] []) none 0 none 0]).length : Int))] ++ [(Pr.mk ⟨#[115, 116, 101, 112, 115]⟩ (LL.length : Int))]) _ _ (Fr.lend hw 0 rfl (by first | ((try simp only [LL]) <;> omega) | omega | (simp <;> omega))) (by first | ((try simp only [LL]) <;> omega) | omega | (simp <;> omega)) (by first | ((try simp only [LL]) <;> omega) | omega | (simp <;> omega)) (by first | ((try simp only [LL]) <;> omega) | omega | (simp <;> omega))) (fun v_q42 C_q42 q42 => ?_))
  obtain ⟨u37, nA38, nc39, kA40, kc41, rfl, rfl⟩ := q42
  show SP _ _ _ _ _ _ ⟨_, _ :: _ :: _ :: _ :: _ :: _, _, _⟩
  refine .ev (ev_as rfl rfl) rfl rfl rfl ?_
  refine .go (fun _ _ h => h) ?_
  subst q_2
  refine SC.nest0 9 3 ?_
  refine SC.packl (TN.mk 3 false ve ⟨#[]⟩ [] []) .h rfl rfl ?_
  refine SC.packl (TN.mk 3 false co ⟨#[]⟩ [] []) .h rfl rfl ?_
  refine SC.packl (TN.mk 3 false tm ⟨#[]⟩ [] []) .h rfl rfl ?_
  refine SC.packl (TN.mk 3 false ds ⟨#[]⟩ [] []) .h rfl rfl ?_
  refine SC.packl (TN.mk 3 false wt ⟨#[]⟩ [] []) .h rfl rfl ?_
  refine SC.packl (TN.mk 3 false sv ⟨#[]⟩ [] []) .h rfl rfl ?_
  refine SC.nestapp (.c .h (.c (.t (.t (.t (.t (.t (.t .h)))))) .n)) ?_
  refine SC.nilrow eS 9 ?_
  refine SC.pack (TV.mk (TN.mk 5 false 0 ⟨#[]⟩ [] X) none 0 A27 c28) (.c (.t .h) (.c .h (.c (.t (.t (.t (.t (.t (.t .h)))))) .n))) (by first | omega | (simp; done) | (simp; omega)) (by first | omega | (simp; done) | (simp; omega)) ?_
  refine SC.pack (TV.mk (TN.mk 6 false 0 ⟨#[]⟩ (([(Pr.mk ⟨#[118, 101, 104, 105, 99, 108, 101]⟩ (l.length : Int)), (Pr.mk ⟨#[99, 111, 115, 116]⟩ ((l ++ [TV.mk (TN.mk 3 false ve ⟨#[]⟩ [] []) none 0 none 0]).length : Int)), (Pr.mk ⟨#[116, 105, 109, 101]⟩ (((l ++ [TV.mk (TN.mk 3 false ve ⟨#[]⟩ [] []) none 0 none 0]) ++ [TV.mk (TN.mk 3 false co ⟨#[]⟩ [] []) none 0 none 0]).length : Int)), (Pr.mk ⟨#[100, 105, 115, 116]⟩ ((((l ++ [TV.mk (TN.mk 3 false ve ⟨#[]⟩ [] []) none 0 none 0]) ++ [TV.mk (TN.mk 3 false co ⟨#[]⟩ [] []) none 0 none 0]) ++ [TV.mk (TN.mk 3 false tm ⟨#[]⟩ [] []) none 0 none 0]).length : Int)), (Pr.mk ⟨#[119, 97, 105, 116]⟩ (((((l ++ [TV.mk (TN.mk 3 false ve ⟨#[]⟩ [] []) none 0 none 0]) ++ [TV.mk (TN.mk 3 false co ⟨#[]⟩ [] []) none 0 none 0]) ++ [TV.mk (TN.mk 3 false tm ⟨#[]⟩ [] []) none 0 none 0]) ++ [TV.mk (TN.mk 3 false ds ⟨#[]⟩ [] []) none 0 none 0]).length : Int)), (Pr.mk ⟨#[115, 101, 114, 118, 105, 99, 101]⟩ ((((((l ++ [TV.mk (TN.mk 3 false ve ⟨#[]⟩ [] []) none 0 none 0]) ++ [TV.mk (TN.mk 3 false co ⟨#[]⟩ [] []) none 0 none 0]) ++ [TV.mk (TN.mk 3 false tm ⟨#[]⟩ [] []) none 0 none 0]) ++ [TV.mk (TN.mk 3 false ds ⟨#[]⟩ [] []) none 0 none 0]) ++ [TV.mk (TN.mk 3 false wt ⟨#[]⟩ [] []) none 0 none 0]).length : Int))] ++ [(Pr.mk ⟨#[115, 116, 101, 112, 115]⟩ ((((((((l ++ [TV.mk (TN.mk 3 false ve ⟨#[]⟩ [] []) none 0 none 0]) ++ [TV.mk (TN.mk 3 false co ⟨#[]⟩ [] []) none 0 none 0]) ++ [TV.mk (TN.mk 3 false tm ⟨#[]⟩ [] []) none 0 none 0]) ++ [TV.mk (TN.mk 3 false ds ⟨#[]⟩ [] []) none 0 none 0]) ++ [TV.mk (TN.mk 3 false wt ⟨#[]⟩ [] []) none 0 none 0]) ++ [TV.mk (TN.mk 3 false sv ⟨#[]⟩ [] []) none 0 none 0]) ++ M).length : Int))]).map Pr.name) (([(Pr.mk ⟨#[118, 101, 104, 105, 99, 108, 101]⟩ (l.length : Int)), (Pr.mk ⟨#[99, 111, 115, 116]⟩ ((l ++ [TV.mk (TN.mk 3 false ve ⟨#[]⟩ [] []) none 0 none 0]).length : Int)), (Pr.mk ⟨#[116, 105, 109, 101]⟩ (((l ++ [TV.mk (TN.mk 3 false ve ⟨#[]⟩ [] []) none 0 none 0]) ++ [TV.mk (TN.mk 3 false co ⟨#[]⟩ [] []) none 0 none 0]).length : Int)), (Pr.mk ⟨#[100, 105, 115, 116]⟩ ((((l ++ [TV.mk (TN.mk 3 false ve ⟨#[]⟩ [] []) none 0 none 0]) ++ [TV.mk (TN.mk 3 false co ⟨#[]⟩ [] []) none 0 none 0]) ++ [TV.mk (TN.mk 3 false tm ⟨#[]⟩ [] []) none 0 none 0]).length : Int)), (Pr.mk ⟨#[119, 97, 105, 116]⟩ (((((l ++ [TV.mk (TN.mk 3 false ve ⟨#[]⟩ [] []) none 0 none 0]) ++ [TV.mk (TN.mk 3 false co ⟨#[]⟩ [] []) none 0 none 0]) ++ [TV.mk (TN.mk 3 false tm ⟨#[]⟩ [] []) none 0 none 0]) ++ [TV.mk (TN.mk 3 false ds ⟨#[]⟩ [] []) none 0 none 0]).length : Int)), (Pr.mk ⟨#[115, 101, 114, 118, 105, 99, 101]⟩ ((((((l ++ [TV.mk (TN.mk 3 false ve ⟨#[]⟩ [] []) none 0 none 0]) ++ [TV.mk (TN.mk 3 false co ⟨#[]⟩ [] []) none 0 none 0]) ++ [TV.mk (TN.mk 3 false tm ⟨#[]⟩ [] []) none 0 none 0]) ++ [TV.mk (TN.mk 3 false ds ⟨#[]⟩ [] []) none 0 none 0]) ++ [TV.mk (TN.mk 3 false wt ⟨#[]⟩ [] []) none 0 none 0]).length : Int))] ++ [(Pr.mk ⟨#[115, 116, 101, 112, 115]⟩ ((((((((l ++ [TV.mk (TN.mk 3 false ve ⟨#[]⟩ [] []) none 0 none 0]) ++ [TV.mk (TN.mk 3 false co ⟨#[]⟩ [] []) none 0 none 0]) ++ [TV.mk (TN.mk 3 false tm ⟨#[]⟩ [] []) none 0 none 0]) ++ [TV.mk (TN.mk 3 false ds ⟨#[]⟩ [] []) none 0 none 0]) ++ [TV.mk (TN.mk 3 false wt ⟨#[]⟩ [] []) none 0 none 0]) ++ [TV.mk (TN.mk 3 false sv ⟨#[]⟩ [] []) none 0 none 0]) ++ M).length : Int))]).map Pr.pos)) nA38 nc39 kA40 kc41) (.c .h (.c (.t (.t .h)) (.c (.t (.t .h)) .n))) (by first | omega | (simp; done) | (simp; omega)) (by first | omega | (simp; done) | (simp; omega)) ?_
  exact .ret (fun _ _ h => h) (ret1 Try.results26 rfl (.c (.t .h) (.c (.t .h) (.c .h .n))) ⟨u37, (((((((((l ++ [TV.mk (TN.mk 3 false ve ⟨#[]⟩ [] []) none 0 none 0]) ++ [TV.mk (TN.mk 3 false co ⟨#[]⟩ [] []) none 0 none 0]) ++ [TV.mk (TN.mk 3 false tm ⟨#[]⟩ [] []) none 0 none 0]) ++ [TV.mk (TN.mk 3 false ds ⟨#[]⟩ [] []) none 0 none 0]) ++ [TV.mk (TN.mk 3 false wt ⟨#[]⟩ [] []) none 0 none 0]) ++ [TV.mk (TN.mk 3 false sv ⟨#[]⟩ [] []) none 0 none 0]) ++ M) ++ [TV.mk (TN.mk 5 false 0 ⟨#[]⟩ [] X) none 0 A27 c28]) ++ [TV.mk (TN.mk 6 false 0 ⟨#[]⟩ (([(Pr.mk ⟨#[118, 101, 104, 105, 99, 108, 101]⟩ (l.length : Int)), (Pr.mk ⟨#[99, 111, 115, 116]⟩ ((l ++ [TV.mk (TN.mk 3 false ve ⟨#[]⟩ [] []) none 0 none 0]).length : Int)), (Pr.mk ⟨#[116, 105, 109, 101]⟩ (((l ++ [TV.mk (TN.mk 3 false ve ⟨#[]⟩ [] []) none 0 none 0]) ++ [TV.mk (TN.mk 3 false co ⟨#[]⟩ [] []) none 0 none 0]).length : Int)), (Pr.mk ⟨#[100, 105, 115, 116]⟩ ((((l ++ [TV.mk (TN.mk 3 false ve ⟨#[]⟩ [] []) none 0 none 0]) ++ [TV.mk (TN.mk 3 false co ⟨#[]⟩ [] []) none 0 none 0]) ++ [TV.mk (TN.mk 3 false tm ⟨#[]⟩ [] []) none 0 none 0]).length : Int)), (Pr.mk ⟨#[119, 97, 105, 116]⟩ (((((l ++ [TV.mk (TN.mk 3 false ve ⟨#[]⟩ [] []) none 0 none 0]) ++ [TV.mk (TN.mk 3 false co ⟨#[]⟩ [] []) none 0 none 0]) ++ [TV.mk (TN.mk 3 false tm ⟨#[]⟩ [] []) none 0 none 0]) ++ [TV.mk (TN.mk 3 false ds ⟨#[]⟩ [] []) none 0 none 0]).length : Int)), (Pr.mk ⟨#[115, 101, 114, 118, 105, 99, 101]⟩ ((((((l ++ [TV.mk (TN.mk 3 false ve ⟨#[]⟩ [] []) none 0 none 0]) ++ [TV.mk (TN.mk 3 false co ⟨#[]⟩ [] []) none 0 none 0]) ++ [TV.mk (TN.mk 3 false tm ⟨#[]⟩ [] []) none 0 none 0]) ++ [TV.mk (TN.mk 3 false ds ⟨#[]⟩ [] []) none 0 none 0]) ++ [TV.mk (TN.mk 3 false wt ⟨#[]⟩ [] []) none 0 none 0]).length : Int))] ++ [(Pr.mk ⟨#[115, 116, 101, 112, 115]⟩ ((((((((l ++ [TV.mk (TN.mk 3 false ve ⟨#[]⟩ [] []) none 0 none 0]) ++ [TV.mk (TN.mk 3 false co ⟨#[]⟩ [] []) none 0 none 0]) ++ [TV.mk (TN.mk 3 false tm ⟨#[]⟩ [] []) none 0 none 0]) ++ [TV.mk (TN.mk 3 false ds ⟨#[]⟩ [] []) none 0 none 0]) ++ [TV.mk (TN.mk 3 false wt ⟨#[]⟩ [] []) none 0 none 0]) ++ [TV.mk (TN.mk 3 false sv ⟨#[]⟩ [] []) none 0 none 0]) ++ M).length : Int))]).map Pr.name) (([(Pr.mk ⟨#[118, 101, 104, 105, 99, 108, 101]⟩ (l.length : Int)), (Pr.mk ⟨#[99, 111, 115, 116]⟩ ((l ++ [TV.mk (TN.mk 3 false ve ⟨#[]⟩ [] []) none 0 none 0]).length : Int)), (Pr.mk ⟨#[116, 105, 109, 101]⟩ (((l ++ [TV.mk (TN.mk 3 false ve ⟨#[]⟩ [] []) none 0 none 0]) ++ [TV.mk (TN.mk 3 false co ⟨#[]⟩ [] []) none 0 none 0]).length : Int)), (Pr.mk ⟨#[100, 105, 115, 116]⟩ ((((l ++ [TV.mk (TN.mk 3 false ve ⟨#[]⟩ [] []) none 0 none 0]) ++ [TV.mk (TN.mk 3 false co ⟨#[]⟩ [] []) none 0 none 0]) ++ [TV.mk (TN.mk 3 false tm ⟨#[]⟩ [] []) none 0 none 0]).length : Int)), (Pr.mk ⟨#[119, 97, 105, 116]⟩ (((((l ++ [TV.mk (TN.mk 3 false ve ⟨#[]⟩ [] []) none 0 none 0]) ++ [TV.mk (TN.mk 3 false co ⟨#[]⟩ [] []) none 0 none 0]) ++ [TV.mk (TN.mk 3 false tm ⟨#[]⟩ [] []) none 0 none 0]) ++ [TV.mk (TN.mk 3 false ds ⟨#[]⟩ [] []) none 0 none 0]).length : Int)), (Pr.mk ⟨#[115, 101, 114, 118, 105, 99, 101]⟩ ((((((l ++ [TV.mk (TN.mk 3 false ve ⟨#[]⟩ [] []) none 0 none 0]) ++ [TV.mk (TN.mk 3 false co ⟨#[]⟩ [] []) none 0 none 0]) ++ [TV.mk (TN.mk 3 false tm ⟨#[]⟩ [] []) none 0 none 0]) ++ [TV.mk (TN.mk 3 false ds ⟨#[]⟩ [] []) none 0 none 0]) ++ [TV.mk (TN.mk 3 false wt ⟨#[]⟩ [] []) none 0 none 0]).length : Int))] ++ [(Pr.mk ⟨#[115, 116, 101, 112, 115]⟩ ((((((((l ++ [TV.mk (TN.mk 3 false ve ⟨#[]⟩ [] []) none 0 none 0]) ++ [TV.mk (TN.mk 3 false co ⟨#[]⟩ [] []) none 0 none 0]) ++ [TV.mk (TN.mk 3 false tm ⟨#[]⟩ [] []) none 0 none 0]) ++ [TV.mk (TN.mk 3 false ds ⟨#[]⟩ [] []) none 0 none 0]) ++ [TV.mk (TN.mk 3 false wt ⟨#[]⟩ [] []) none 0 none 0]) ++ [TV.mk (TN.mk 3 false sv ⟨#[]⟩ [] []) none 0 none 0]) ++ M).length : Int))]).map Pr.pos)) nA38 nc39 kA40 kc41]), (((((((((([] : List TV) ++ [TV.mk (TN.mk 3 false ve ⟨#[]⟩ [] []) none 0 none 0]) ++ [TV.mk (TN.mk 3 false co ⟨#[]⟩ [] []) none 0 none 0]) ++ [TV.mk (TN.mk 3 false tm ⟨#[]⟩ [] []) none 0 none 0]) ++ [TV.mk (TN.mk 3 false ds ⟨#[]⟩ [] []) none 0 none 0]) ++ [TV.mk (TN.mk 3 false wt ⟨#[]⟩ [] []) none 0 none 0]) ++ [TV.mk (TN.mk 3 false sv ⟨#[]⟩ [] []) none 0 none 0]) ++ M) ++ [TV.mk (TN.mk 5 false 0 ⟨#[]⟩ [] X) none 0 A27 c28]) ++ [TV.mk (TN.mk 6 false 0 ⟨#[]⟩ (([(Pr.mk ⟨#[118, 101, 104, 105, 99, 108, 101]⟩ (l.length : Int)), (Pr.mk ⟨#[99, 111, 115, 116]⟩ ((l ++ [TV.mk (TN.mk 3 false ve ⟨#[]⟩ [] []) none 0 none 0]).length : Int)), (Pr.mk ⟨#[116, 105, 109, 101]⟩ (((l ++ [TV.mk (TN.mk 3 false ve ⟨#[]⟩ [] []) none 0 none 0]) ++ [TV.mk (TN.mk 3 false co ⟨#[]⟩ [] []) none 0 none 0]).length : Int)), (Pr.mk ⟨#[100, 105, 115, 116]⟩ ((((l ++ [TV.mk (TN.mk 3 false ve ⟨#[]⟩ [] []) none 0 none 0]) ++ [TV.mk (TN.mk 3 false co ⟨#[]⟩ [] []) none 0 none 0]) ++ [TV.mk (TN.mk 3 false tm ⟨#[]⟩ [] []) none 0 none 0]).length : Int)), (Pr.mk ⟨#[119, 97, 105, 116]⟩ (((((l ++ [TV.mk (TN.mk 3 false ve ⟨#[]⟩ [] []) none 0 none 0]) ++ [TV.mk (TN.mk 3 false co ⟨#[]⟩ [] []) none 0 none 0]) ++ [TV.mk (TN.mk 3 false tm ⟨#[]⟩ [] []) none 0 none 0]) ++ [TV.mk (TN.mk 3 false ds ⟨#[]⟩ [] []) none 0 none 0]).length : Int)), (Pr.mk ⟨#[115, 101, 114, 118, 105, 99, 101]⟩ ((((((l ++ [TV.mk (TN.mk 3 false ve ⟨#[]⟩ [] []) none 0 none 0]) ++ [TV.mk (TN.mk 3 false co ⟨#[]⟩ [] []) none 0 none 0]) ++ [TV.mk (TN.mk 3 false tm ⟨#[]⟩ [] []) none 0 none 0]) ++ [TV.mk (TN.mk 3 false ds ⟨#[]⟩ [] []) none 0 none 0]) ++ [TV.mk (TN.mk 3 false wt ⟨#[]⟩ [] []) none 0 none 0]).length : Int))] ++ [(Pr.mk ⟨#[115, 116, 101, 112, 115]⟩ ((((((((l ++ [TV.mk (TN.mk 3 false ve ⟨#[]⟩ [] []) none 0 none 0]) ++ [TV.mk (TN.mk 3 false co ⟨#[]⟩ [] []) none 0 none 0]) ++ [TV.mk (TN.mk 3 false tm ⟨#[]⟩ [] []) none 0 none 0]) ++ [TV.mk (TN.mk 3 false ds ⟨#[]⟩ [] []) none 0 none 0]) ++ [TV.mk (TN.mk 3 false wt ⟨#[]⟩ [] []) none 0 none 0]) ++ [TV.mk (TN.mk 3 false sv ⟨#[]⟩ [] []) none 0 none 0]) ++ M).length : Int))]).map Pr.name) (([(Pr.mk ⟨#[118, 101, 104, 105, 99, 108, 101]⟩ (l.length : Int)), (Pr.mk ⟨#[99, 111, 115, 116]⟩ ((l ++ [TV.mk (TN.mk 3 false ve ⟨#[]⟩ [] []) none 0 none 0]).length : Int)), (Pr.mk ⟨#[116, 105, 109, 101]⟩ (((l ++ [TV.mk (TN.mk 3 false ve ⟨#[]⟩ [] []) none 0 none 0]) ++ [TV.mk (TN.mk 3 false co ⟨#[]⟩ [] []) none 0 none 0]).length : Int)), (Pr.mk ⟨#[100, 105, 115, 116]⟩ ((((l ++ [TV.mk (TN.mk 3 false ve ⟨#[]⟩ [] []) none 0 none 0]) ++ [TV.mk (TN.mk 3 false co ⟨#[]⟩ [] []) none 0 none 0]) ++ [TV.mk (TN.mk 3 false tm ⟨#[]⟩ [] []) none 0 none 0]).length : Int)), (Pr.mk ⟨#[119, 97, 105, 116]⟩ (((((l ++ [TV.mk (TN.mk 3 false ve ⟨#[]⟩ [] []) none 0 none 0]) ++ [TV.mk (TN.mk 3 false co ⟨#[]⟩ [] []) none 0 none 0]) ++ [TV.mk (TN.mk 3 false tm ⟨#[]⟩ [] []) none 0 none 0]) ++ [TV.mk (TN.mk 3 false ds ⟨#[]⟩ [] []) none 0 none 0]).length : Int)), (Pr.mk ⟨#[115, 101, 114, 118, 105, 99, 101]⟩ ((((((l ++ [TV.mk (TN.mk 3 false ve ⟨#[]⟩ [] []) none 0 none 0]) ++ [TV.mk (TN.mk 3 false co ⟨#[]⟩ [] []) none 0 none 0]) ++ [TV.mk (TN.mk 3 false tm ⟨#[]⟩ [] []) none 0 none 0]) ++ [TV.mk (TN.mk 3 false ds ⟨#[]⟩ [] []) none 0 none 0]) ++ [TV.mk (TN.mk 3 false wt ⟨#[]⟩ [] []) none 0 none 0]).length : Int))] ++ [(Pr.mk ⟨#[115, 116, 101, 112, 115]⟩ ((((((((l ++ [TV.mk (TN.mk 3 false ve ⟨#[]⟩ [] []) none 0 none 0]) ++ [TV.mk (TN.mk 3 false co ⟨#[]⟩ [] []) none 0 none 0]) ++ [TV.mk (TN.mk 3 false tm ⟨#[]⟩ [] []) none 0 none 0]) ++ [TV.mk (TN.mk 3 false ds ⟨#[]⟩ [] []) none 0 none 0]) ++ [TV.mk (TN.mk 3 false wt ⟨#[]⟩ [] []) none 0 none 0]) ++ [TV.mk (TN.mk 3 false sv ⟨#[]⟩ [] []) none 0 none 0]) ++ M).length : Int))]).map Pr.pos)) nA38 nc39 kA40 kc41]), (by simp only [List.append_assoc, List.nil_append]), (plan_lay (PV.mk ve steps tm ds wt sv co sA sc) (by have h_ := q_3; rw [List.take_of_length_le (by omega)] at h_; exact h_) (by simp <;> omega) rfl (by simp only [List.map_cons, List.map_nil, List.map_append, List.length_append, List.length_cons, List.length_nil, List.cons_append, List.nil_append, List.cons.injEq, and_true, true_and]; and_intros <;> omega)), (by simp only [List.length_append, List.length_cons, List.length_nil]; omega), (congrArg (Value.int .i64) (by simp <;> omega)), rfl⟩)
end Go.Proofs.Ythmkelkefmfmgaa.Sx
set_option maxRecDepth 20000
set_option maxHeartbeats 4000000
set_option linter.unusedVariables false
set_option linter.unusedSimpArgs false
namespace Go.Proofs.Ythmkelkefmfmgaa.Sx.FK
open Go Go.SX Go.Proofs
theorem fo30_0 : fo Try.prog 30 0 = some 0 := by kernel_rfl
theorem fo24_0 : fo Try.prog 24 0 = some 0 := by kernel_rfl
theorem ty22 : ty Try.prog 22 = some (false, 1) := by kernel_rfl
theorem hbd22 : hasBody Try.prog 22 = true := by kernel_rfl
theorem fo30_1 : fo Try.prog 30 1 = some 3 := by kernel_rfl
theorem ty4 : ty Try.prog 4 = some (false, 1) := by kernel_rfl
theorem hbd24 : hasBody Try.prog 24 = true := by kernel_rfl
theorem fo30_2 : fo Try.prog 30 2 = some 4 := by kernel_rfl
theorem ty26 : ty Try.prog 26 = some (true, 8) := by kernel_rfl
theorem hbd25 : hasBody Try.prog 25 = true := by kernel_rfl
theorem mo : Try.prog.follows .mixedOrders = true := by kernel_rfl
theorem fo30_3 : fo Try.prog 30 3 = some 12 := by kernel_rfl
theorem ty27 : ty Try.prog 27 = some (false, 1) := by kernel_rfl
theorem ty52 : ty Try.prog 52 = some (true, 7) := by kernel_rfl
theorem zf52 : (Try.prog.info? 52).bind (fun i => i.zero.map Value.cells) = some (List.toArray [.int .i64 0, .slice none 0 0, .int .i64 0, .int .i64 0, .int .i64 0, .int .i64 0, .int .i64 0]) := by kernel_rfl
theorem hbd26 : hasBody Try.prog 26 = true := by kernel_rfl
theorem ai3 : (Try.prog.info? 3).map (fun i => (i.zero, i.size, i.bytes)) = some (some (.int .i64 0), 1, 8) := by kernel_rfl
theorem hbd27 : hasBody Try.prog 27 = true := by kernel_rfl
theorem fo30_4 : fo Try.prog 30 4 = some 13 := by kernel_rfl
theorem ty28 : ty Try.prog 28 = some (false, 1) := by kernel_rfl
theorem ty62 : ty Try.prog 62 = some (true, 2) := by kernel_rfl
theorem zf62 : (Try.prog.info? 62).bind (fun i => i.zero.map Value.cells) = some (List.toArray [.bool false, .int .i64 0]) := by kernel_rfl
theorem hbd28 : hasBody Try.prog 28 = true := by kernel_rfl
theorem fo62_1 : fo Try.prog 62 1 = some 1 := by kernel_rfl
theorem ty3 : ty Try.prog 3 = some (false, 1) := by kernel_rfl
theorem hbd23 : hasBody Try.prog 23 = true := by kernel_rfl
theorem hbd21 : hasBody Try.prog 21 = true := by kernel_rfl
theorem fo65_0 : fo Try.prog 65 0 = some 0 := by kernel_rfl
theorem ty34 : ty Try.prog 34 = some (false, 1) := by kernel_rfl
end Go.Proofs.Ythmkelkefmfmgaa.Sx.FK
namespace Go.Proofs.Ythmkelkefmfmgaa.Sx
open Go Go.SX Go.Proofs FK
theorem tree_ (cd : Int) (at_ : Int) (path : ByteArray) (op : Bool) (x0 : Int) (x1 : Int) (x2 : Int) (x3 : Int) (x4 : Int) (x5 : Int) (x6 : Int) (x7 : Int) (pA : Option Addr) (pc : Nat) (ps : List PV) (kA : Option Addr) (kc : Nat) (lf : List TK) (S : Nat → Prop) (wf : World) (hP : Fr ePL S wf pA ps) (hK : Fr eTK S wf kA lf) (hN : NP S wf ps) (hc : cd = 0) (hps : ps.length ≤ 8192) (hlf : lf.length ≤ 8192) (hS : ∀ p ∈ ps, p.steps.length ≤ 8192 ∧ ∀ s ∈ p.steps, (-9223372036854775808 < s.kind ∧ s.kind ≤ 9223372036854775807) ∧ s.load.length ≤ 8192) :
  TR0 Try.prog 11 [.agg #[.int .i64 cd, .int .i64 at_, .string path, .bool op, .int .i64 x0, .int .i64 x1, .int .i64 x2, .int .i64 x3, .int .i64 x4, .int .i64 x5, .int .i64 x6, .int .i64 x7, .slice pA ps.length pc, .slice kA lf.length kc]] [] S wf (fun v_ C_ => ∃ (u : Value) (L : List TV), (vs L = okT op ⟨x0, x1, x2, x3, x4, x5, x6, x7⟩ ps lf) ∧ (L.length ≤ 1000000000000) ∧ v_ = u ∧ C_ = [rw_ eTV 90 (u) L, nest 9 3 L]) := by
 have hla := hP.len
 have hlk := hK.len
 refine TR.mk Try.func11 rfl Try.ntmps11 rfl rfl (fun w_ => ?_)
 refine .seq ?_
 refine .region ?_
 refine .cons (st_boxa rfl rfl rfl rfl rfl (fun b1 => ?_))
 refine .ev (ev_as rfl rfl) rfl rfl rfl ?_
 refine .go (fun _ _ h => h) ?_
 refine .seq ?_
 refine .region ?_
 refine .ev (ev_any (v := .agg #[.slice none 0 0]) rfl (by kernel_rfl) (fun _ => by kernel_rfl)) rfl rfl rfl ?_
 refine .cons (st_boxa rfl rfl rfl rfl rfl (fun b2 => ?_))
 refine .ev (ev_as rfl rfl) rfl rfl rfl ?_
 refine .go (fun _ _ h => h) ?_
 refine .seq ?_
 refine .seq ?_
 refine SC.nilrow eTV 90 ?_
 refine .region ?_
 refine .ev (ev_fa rfl fo30_0 rfl (r := 0) rfl) rfl rfl rfl ?_
 refine .ev (ev_fa rfl fo24_0 rfl (r := 0) rfl) rfl rfl rfl ?_
 refine .ev (ev_ld1 rfl ty22 rfl (At.own1 2 rfl rfl)) rfl rfl rfl ?_
 refine .ev (ev_cmp rfl rfl rfl rfl) rfl rfl rfl ?_
 refine .go (fun _ _ h => h) ?_
 refine .condI rfl bNE (fun h3 => ?_) (fun h3 => ?_)
 ·
  simp_all
 ·
  refine .skipgo (fun _ _ h => h) ?_
  refine .seq ?_
  refine SC.draw mo [rw_ eTV 90 (.slice none 0 0) ([] : List TV), cel b2 [.slice none 0 0] 65] [] (.c .h (.c .h .n)) (fun _ _ _ c hc => by cases hc) (fun wf_4 hl_4 hx_4 hR_4 => ?_)
  refine SR.tk 0 rfl (by kernel_rfl) rfl rfl rfl (ev_mv rfl rfl) ?_
  refine SR.tk 2 rfl (by kernel_rfl) rfl rfl rfl (ev_mv rfl rfl) ?_
  refine SR.tk 3 rfl (by kernel_rfl) rfl rfl rfl (ev_fa rfl fo30_1 rfl (r := 3) rfl) ?_
  refine SR.tk 4 rfl (by kernel_rfl) rfl rfl rfl (ev_ld1 rfl ty4 rfl (At.d (At.lent hR_4 0 rfl rfl))) ?_
  refine SR.tk 6 rfl (by kernel_rfl) rfl rfl rfl (ev_mv rfl rfl) ?_
  refine SR.tk 7 rfl (by kernel_rfl) rfl rfl rfl (ev_fa rfl fo30_2 rfl (r := 4) rfl) ?_
  refine SR.tk 8 rfl (by kernel_rfl) rfl rfl rfl (ev_lda (cs := [.int .i64 x0, .int .i64 x1, .int .i64 x2, .int .i64 x3, .int .i64 x4, .int .i64 x5, .int .i64 x6, .int .i64 x7]) rfl rfl (At.d (At.lent hR_4 0 rfl rfl)) ty26) ?_
  refine SR.one (j := 1) (by kernel_rfl) rfl (st_call0 rfl rfl rfl rfl hbd22 rfl (.c (.t .h) (.c .h .n)) (mtext b2 (.slice none 0 0) ([] : List TV) ⟨#[111, 107]⟩ _ _ (by first | ((try simp only [LL]) <;> omega) | omega | (simp <;> omega))) (fun v_q6 C_q6 q6 => ⟨tt0, ?_⟩))
  obtain ⟨u5, rfl, rfl⟩ := q6
  show SR _ _ _ _ _ _ _ _ _ ⟨_, _ :: _ :: _, _, _⟩
  refine SR.one (j := 5) (by kernel_rfl) rfl (st_call0 rfl rfl rfl rfl hbd24 rfl (.c .h (.c .h .n)) (mtruth b2 u5 (([] : List TV) ++ [TV.mk (TN.mk 4 false 0 ⟨#[111, 107]⟩ [] []) none 0 none 0]) op _ _ (by first | ((try simp only [LL]) <;> omega) | omega | (simp <;> omega))) (fun v_q8 C_q8 q8 => ⟨tt0, ?_⟩))
  obtain ⟨u7, rfl, rfl⟩ := q8
  show SR _ _ _ _ _ _ _ _ _ ⟨_, _ :: _ :: _, _, _⟩
  refine SR.one (j := 9) (by kernel_rfl) rfl (st_call0 rfl rfl rfl rfl hbd25 rfl (.c .h (.c .h .n)) (msums b2 u7 ((([] : List TV) ++ [TV.mk (TN.mk 4 false 0 ⟨#[111, 107]⟩ [] []) none 0 none 0]) ++ [TV.mk (TN.mk 2 op 0 ⟨#[]⟩ [] []) none 0 none 0]) x0 x1 x2 x3 x4 x5 x6 x7 _ _ (by first | ((try simp only [LL]) <;> omega) | omega | (simp <;> omega))) (fun v_q12 C_q12 q12 => ⟨tt0, ?_⟩))
  obtain ⟨u9, L10, M11, p13, p14, rfl, rfl⟩ := q12
  show SR _ _ _ _ _ _ _ _ _ ⟨_, _ :: _ :: _ :: _, _, _⟩
  subst p13
  have hM15 : M11.length = 9 := (vs_len M11).symm.trans ((congrArg List.length p14).trans rfl)
  refine SR.tk 10 rfl (by kernel_rfl) rfl rfl rfl (ev_as rfl rfl) ?_
  refine SR.tk 11 rfl (by kernel_rfl) rfl rfl rfl (ev_as rfl rfl) ?_
  refine SR.tk 12 rfl (by kernel_rfl) rfl rfl rfl (ev_as rfl rfl) ?_
  refine SR.fin (by kernel_rfl) hl_4 hx_4 hR_4 (.c (.c (.c .n))) ?_
  refine SQ.go (fun _ _ h => h) ?_
  refine .seq ?_
  refine SC.nest0 9 3 ?_
  refine SC.packl (TN.mk 4 false 0 ⟨#[111, 107]⟩ [] []) .h rfl rfl ?_
  refine SC.packl (TN.mk 2 op 0 ⟨#[]⟩ [] []) .h rfl rfl ?_
  refine SC.nestapp (.c .h (.c (.t (.t .h)) .n)) ?_
  refine .region ?_
  refine .ev (ev_as rfl rfl) rfl rfl rfl ?_
  refine .ev (ev_as rfl rfl) rfl rfl rfl ?_
  refine .go (fun _ _ h => h) ?_
  refine .seq ?_
  refine .seq ?_
  refine SC.nilrow eZ 3 ?_
  refine SC.nest0 9 3 ?_
  refine .region ?_
  refine .ev (ev_fa rfl fo30_3 rfl (r := 12) rfl) rfl rfl rfl ?_
  refine .ev (ev_ld1 rfl ty27 rfl (At.own1 5 rfl rfl)) rfl rfl rfl ?_
  refine .ev (ev_len rfl Try.underlying27 rfl) rfl rfl rfl ?_
  refine .ev (ev_mv rfl rfl) rfl rfl rfl ?_
  refine .go (fun _ _ h => h) ?_
  refine .block ?_
  refine .loop (X := Int × Value × Value × (List TV) × (List TV) × (List Int)) (fun ⟨i, W, KV, LL, M, X⟩ => 0 ≤ i ∧ i ≤ ps.length ∧ LL = (((([] : List TV) ++ [TV.mk (TN.mk 4 false 0 ⟨#[111, 107]⟩ [] []) none 0 none 0]) ++ [TV.mk (TN.mk 2 op 0 ⟨#[]⟩ [] []) none 0 none 0]) ++ M11) ++ M ∧ plansF ((((([] : List TV) ++ [TV.mk (TN.mk 4 false 0 ⟨#[111, 107]⟩ [] []) none 0 none 0]) ++ [TV.mk (TN.mk 2 op 0 ⟨#[]⟩ [] []) none 0 none 0]) ++ M11)).length (ps.take i.toNat) ([], []) = (vs M, X) ∧ (LL.length : Int) = 11 + M.length ∧ (X.length : Int) = i ∧ (M.length : Int) ≤ 67200000 * i) (fun ⟨i, W, KV, LL, M, X⟩ => [(1, .pointer (some ⟨b1, 0, none⟩)), (3, .pointer (some ⟨b2, 0, none⟩)), (4, .int .i64 (([] : List TV).length : Int)), (5, .int .i64 ((([] : List TV) ++ [TV.mk (TN.mk 4 false 0 ⟨#[111, 107]⟩ [] []) none 0 none 0]).length : Int)), (6, .int .i64 ((((([] : List TV) ++ [TV.mk (TN.mk 4 false 0 ⟨#[111, 107]⟩ [] []) none 0 none 0]) ++ [TV.mk (TN.mk 2 op 0 ⟨#[]⟩ [] []) none 0 none 0]).length : Int) + 8)), (7, KV), (8, .slice none 0 0), (59, .slice pA ps.length pc), (60, .int .i64 (ps.length : Int)), (61, .int .i64 i)]) (fun ⟨i, W, KV, LL, M, X⟩ => [cel b2 [W] 65, rw_ eTV 90 (W) LL, nest 9 3 M, rw_ eZ 3 (KV) X, nest 9 3 (((([] : List TV) ++ [TV.mk (TN.mk 4 false 0 ⟨#[111, 107]⟩ [] []) none 0 none 0]) ++ [TV.mk (TN.mk 2 op 0 ⟨#[]⟩ [] []) none 0 none 0]) ++ M11), cel b1 [.int .i64 cd, .int .i64 at_, .string path, .bool op, .int .i64 x0, .int .i64 x1, .int .i64 x2, .int .i64 x3, .int .i64 x4, .int .i64 x5, .int .i64 x6, .int .i64 x7, .slice pA ps.length pc, .slice kA lf.length kc] 30]) (fun _ => S) (fun _ => wf) (fun ⟨i, W, KV, LL, M, X⟩ => (ps.length - i.toNat)) (fun a_ w_ hs_ hw_ => ⟨⟨0, u9, (.slice none 0 0), (((([] : List TV) ++ [TV.mk (TN.mk 4 false 0 ⟨#[111, 107]⟩ [] []) none 0 none 0]) ++ [TV.mk (TN.mk 2 op 0 ⟨#[]⟩ [] []) none 0 none 0]) ++ M11), ([] : List TV), ([] : List Int)⟩, (by exact ⟨by omega, by omega, by simp, rfl, by simp; omega, rfl, by simp⟩), hs_.mono (Sub.get (.c rfl (.c rfl (.c rfl (.c rfl (.c rfl (.c rfl (.c rfl (.c rfl (.c rfl (.c rfl .n))))))))))), hw_.keep (.c (.t (.t (.t .h))) (.c (.t (.t (.t .h))) (.c .h (.c .h (.c .h (.c .h .n))))))⟩) (fun ⟨i, W, KV, LL, M, X⟩ ⟨q_0, q_1, q_2, q_3, q_4, q_5, q_6⟩ => ?_)
  show SC _ _ _ _ _ ⟨[(1, .pointer (some ⟨b1, 0, none⟩)), (3, .pointer (some ⟨b2, 0, none⟩)), (4, .int .i64 (([] : List TV).length : Int)), (5, .int .i64 ((([] : List TV) ++ [TV.mk (TN.mk 4 false 0 ⟨#[111, 107]⟩ [] []) none 0 none 0]).length : Int)), (6, .int .i64 ((((([] : List TV) ++ [TV.mk (TN.mk 4 false 0 ⟨#[111, 107]⟩ [] []) none 0 none 0]) ++ [TV.mk (TN.mk 2 op 0 ⟨#[]⟩ [] []) none 0 none 0]).length : Int) + 8)), (7, KV), (8, .slice none 0 0), (59, .slice pA ps.length pc), (60, .int .i64 (ps.length : Int)), (61, .int .i64 i)], [cel b2 [W] 65, rw_ eTV 90 (W) LL, nest 9 3 M, rw_ eZ 3 (KV) X, nest 9 3 (((([] : List TV) ++ [TV.mk (TN.mk 4 false 0 ⟨#[111, 107]⟩ [] []) none 0 none 0]) ++ [TV.mk (TN.mk 2 op 0 ⟨#[]⟩ [] []) none 0 none 0]) ++ M11), cel b1 [.int .i64 cd, .int .i64 at_, .string path, .bool op, .int .i64 x0, .int .i64 x1, .int .i64 x2, .int .i64 x3, .int .i64 x4, .int .i64 x5, .int .i64 x6, .int .i64 x7, .slice pA ps.length pc, .slice kA lf.length kc] 30], S, wf⟩
  refine .seq ?_
  refine .region ?_
  refine .ev (ev_cmp rfl rfl rfl rfl) rfl rfl rfl ?_
  refine .go (fun _ _ h => h) ?_
  refine .seq ?_
  refine .condI rfl bD (fun h16 => ?_) (fun h16 => ?_)
  ·
   refine .skipgo (fun _ _ h => h) ?_
   refine .seq ?_
   refine .block ?_
   refine .seq ?_
   refine .region ?_
   refine .ev (ev_ix rfl Try.underlying27 ty52 rfl rfl (by omega) (by omega) (fun _ _ => Fr.adr (i := i) hP (by omega) (by omega))) rfl rfl rfl ?_
   refine .ev (ev_lda rfl rfl (At.w (Fr.el (i := i) hP (by omega) (by omega))) ty52) rfl rfl rfl ?_
   refine .cons (st_alloc rfl rfl rfl rfl zf52 (fun b17 => ?_))
   refine .cons (st_storea (l' := [.int .i64 ((gt ps i).veh), .slice ((gt ps i).sA) ((gt ps i).steps.length) ((gt ps i).sc), .int .i64 ((gt ps i).time), .int .i64 ((gt ps i).dist), .int .i64 ((gt ps i).wait), .int .i64 ((gt ps i).serv), .int .i64 ((gt ps i).cost)]) rfl rfl rfl ty52 rfl rfl rfl .h rfl rfl ?_)
   refine .go (fun _ _ h => h) ?_
   refine .region ?_
   refine .ev (ev_mv rfl rfl) rfl rfl rfl ?_
   refine .ev (ev_mv rfl rfl) rfl rfl rfl ?_
   refine .ev (ev_lda rfl rfl (At.whole 0 rfl) ty52) rfl rfl rfl ?_
   refine .cons (st_call0 rfl rfl rfl rfl hbd26 rfl (.c (.t .h) (.c (.t .h) .n)) (mplan b2 W LL ((gt ps i).veh) ((gt ps i).sA) ((gt ps i).sc) ((gt ps i).steps) ((gt ps i).time) ((gt ps i).dist) ((gt ps i).wait) ((gt ps i).serv) ((gt ps i).cost) _ _ ((hN _ (gt_mem (i := i) (by omega) (by omega))).1) ((hN _ (gt_mem (i := i) (by omega) (by omega))).2) (by first | ((try simp only [LL]) <;> omega) | omega | (simp <;> omega)) (hS _ (gt_mem (i := i) (by omega) (by omega))).1 (hS _ (gt_mem (i := i) (by omega) (by omega))).2) (fun v_q21 C_q21 q21 => ?_))
   obtain ⟨u18, L19, M20, p22, p23, p24, rfl, rfl⟩ := q21
   show SP _ _ _ _ _ _ ⟨_, _ :: _ :: _ :: _, _, _⟩
   subst p22
   refine .cons (st_lit eZ (e := 3) (l := [(((LL ++ M20).length : Int) - 1)]) rfl rfl rfl rfl (by kernel_rfl) rfl rfl (fun w => by kernel_rfl) (fun b25 => ?_))
   refine .cons (st_app (E := eZ) (m := [(((LL ++ M20).length : Int) - 1)]) rfl rfl rfl rfl Try.underlying56 ai3 rfl rfl rfl (.t (.t (.t (.t (.t (.t .h)))))) (by first | rfl | omega | simp) (row_src 0 rfl) (by first | ((try simp only [LL]) <;> omega) | omega | (simp <;> omega)) rfl (fun v26 => ?_))
   refine .ev (ev_as rfl rfl) rfl rfl rfl ?_
   refine .go (fun _ _ h => h) ?_
   refine SC.nestapp (.c (.t (.t (.t (.t (.t (.t .h)))))) (.c (.t (.t (.t (.t .h)))) .n)) ?_
   refine .region ?_
   refine .ev (ev_add rfl rfl rfl (r := (i + 1)) rfl (by omega) (by omega)) rfl rfl rfl ?_
   refine .ev (ev_mv rfl rfl) rfl rfl rfl ?_
   exact SP.nil (SQ.roundb (X := Int × Value × Value × (List TV) × (List TV) × (List Int)) (x := (i, W, KV, LL, M, X)) ⟨(i + 1), u18, v26, (LL ++ M20), (M ++ M20), (X ++ [(((LL ++ M20).length : Int) - 1)])⟩ (by exact ⟨by omega, by omega, by rw [q_2, List.append_assoc], plans_next q_3 p23 (by simp only [List.length_append, List.length_cons, List.length_nil]; omega) (by simp only [List.length_append]; omega) (by omega) (by omega), by simp only [List.length_append]; omega, by rw [List.length_append]; simp; omega, by rw [List.length_append]; omega⟩) (by dsimp only; omega) (Sub.get (.c rfl (.c rfl (.c rfl (.c rfl (.c rfl (.c rfl (.c rfl (.c rfl (.c rfl (.c rfl .n))))))))))) (fun w hw => hw.keep (.c (.t (.t (.t .h))) (.c (.t (.t (.t .h))) (.c .h (.c .h (.c (.t (.t .h)) (.c (.t (.t .h)) .n))))))))
  ·
   refine .exit (fun _ _ h => h) ?_
   refine .seq ?_
   refine .region ?_
   refine .ev (ev_mv rfl rfl) rfl rfl rfl ?_
   refine .ev (ev_mv rfl rfl) rfl rfl rfl ?_
   refine .know (row_len 3 rfl) (fun hv29 => ?_)
   obtain ⟨A27, c28, rfl, hv29_1, hv29_2⟩ := hv29
   unfold maxLen at hv29_2
   refine .cons (st_call0 rfl rfl rfl rfl hbd27 rfl (.c .h (.c .h .n)) (mlist b2 W LL A27 c28 X _ _ (by first | ((try simp only [LL]) <;> omega) | omega | (simp <;> omega))) (fun v_q31 C_q31 q31 => ?_))
   obtain ⟨u30, rfl, rfl⟩ := q31
   show SP _ _ _ _ _ _ ⟨_, _ :: _ :: _, _, _⟩
   refine .ev (ev_as rfl rfl) rfl rfl rfl ?_
   refine .go (fun _ _ h => h) ?_
   refine .seq ?_
   refine .seq ?_
   have hq3 : plansF ((((([] : List TV) ++ [TV.mk (TN.mk 4 false 0 ⟨#[111, 107]⟩ [] []) none 0 none 0]) ++ [TV.mk (TN.mk 2 op 0 ⟨#[]⟩ [] []) none 0 none 0]) ++ M11)).length ps ([], []) = (vs M, X) := by have h_ := q_3; rw [List.take_of_length_le (by omega)] at h_; exact h_
   have hq5 : (X.length : Int) = ps.length := by omega
   subst q_2
   clear q_0 q_1 q_3
   have hML : (M.length : Int) ≤ 67200000 * 8192 := by omega
   refine SC.nestapp (.c (.t (.t (.t (.t .h)))) (.c (.t (.t .h)) .n)) ?_
   refine SC.nilrow eS 9 ?_
   refine SC.pack (TV.mk (TN.mk 5 false 0 ⟨#[]⟩ [] X) none 0 A27 c28) (.c (.t .h) (.c .h (.c (.t (.t .h)) .n))) (by first | omega | (simp; done) | (simp; omega)) (by first | omega | (simp; done) | (simp; omega)) ?_
   refine SC.nilrow eZ 3 ?_
   refine SC.nest0 9 3 ?_
   refine .region ?_
   refine .ev (ev_fa rfl fo30_4 rfl (r := 13) rfl) rfl rfl rfl ?_
   refine .ev (ev_ld1 rfl ty28 rfl (At.own1 5 rfl rfl)) rfl rfl rfl ?_
   refine .ev (ev_len rfl Try.underlying28 rfl) rfl rfl rfl ?_
   refine .ev (ev_mv rfl rfl) rfl rfl rfl ?_
   refine .go (fun _ _ h => h) ?_
   refine .block ?_
   refine .loop (X := Int × Value × Value × (List TV) × (List TV) × (List Int)) (fun ⟨i, W, KV, LM, M2, X2⟩ => 0 ≤ i ∧ i ≤ lf.length ∧ LM = (((((([] : List TV) ++ [TV.mk (TN.mk 4 false 0 ⟨#[111, 107]⟩ [] []) none 0 none 0]) ++ [TV.mk (TN.mk 2 op 0 ⟨#[]⟩ [] []) none 0 none 0]) ++ M11) ++ M) ++ [TV.mk (TN.mk 5 false 0 ⟨#[]⟩ [] X) none 0 A27 c28]) ++ M2 ∧ tasksF ((((((([] : List TV) ++ [TV.mk (TN.mk 4 false 0 ⟨#[111, 107]⟩ [] []) none 0 none 0]) ++ [TV.mk (TN.mk 2 op 0 ⟨#[]⟩ [] []) none 0 none 0]) ++ M11) ++ M) ++ [TV.mk (TN.mk 5 false 0 ⟨#[]⟩ [] X) none 0 A27 c28])).length (lf.take i.toNat) ([], []) = (vs M2, X2) ∧ (LM.length : Int) = 12 + M.length + M2.length ∧ (X2.length : Int) = i ∧ (M2.length : Int) = 3 * i) (fun ⟨i, W, KV, LM, M2, X2⟩ => [(3, .pointer (some ⟨b2, 0, none⟩)), (4, .int .i64 (([] : List TV).length : Int)), (5, .int .i64 ((([] : List TV) ++ [TV.mk (TN.mk 4 false 0 ⟨#[111, 107]⟩ [] []) none 0 none 0]).length : Int)), (6, .int .i64 ((((([] : List TV) ++ [TV.mk (TN.mk 4 false 0 ⟨#[111, 107]⟩ [] []) none 0 none 0]) ++ [TV.mk (TN.mk 2 op 0 ⟨#[]⟩ [] []) none 0 none 0]).length : Int) + 8)), (8, KV), (11, .int .i64 (((((([] : List TV) ++ [TV.mk (TN.mk 4 false 0 ⟨#[111, 107]⟩ [] []) none 0 none 0]) ++ [TV.mk (TN.mk 2 op 0 ⟨#[]⟩ [] []) none 0 none 0]) ++ M11) ++ M).length : Int)), (76, .slice kA lf.length kc), (77, .int .i64 (lf.length : Int)), (78, .int .i64 i)]) (fun ⟨i, W, KV, LM, M2, X2⟩ => [cel b2 [W] 65, rw_ eTV 90 (W) LM, nest 9 3 M2, rw_ eZ 3 (KV) X2, nest 9 3 (((((([] : List TV) ++ [TV.mk (TN.mk 4 false 0 ⟨#[111, 107]⟩ [] []) none 0 none 0]) ++ [TV.mk (TN.mk 2 op 0 ⟨#[]⟩ [] []) none 0 none 0]) ++ M11) ++ M) ++ [TV.mk (TN.mk 5 false 0 ⟨#[]⟩ [] X) none 0 A27 c28])]) (fun _ => S) (fun _ => wf) (fun ⟨i, W, KV, LM, M2, X2⟩ => (lf.length - i.toNat)) (fun a_ w_ hs_ hw_ => ⟨⟨0, u30, (.slice none 0 0), (((((([] : List TV) ++ [TV.mk (TN.mk 4 false 0 ⟨#[111, 107]⟩ [] []) none 0 none 0]) ++ [TV.mk (TN.mk 2 op 0 ⟨#[]⟩ [] []) none 0 none 0]) ++ M11) ++ M) ++ [TV.mk (TN.mk 5 false 0 ⟨#[]⟩ [] X) none 0 A27 c28]), ([] : List TV), ([] : List Int)⟩, (by exact ⟨by omega, by omega, by simp, rfl, by simp; omega, rfl, by simp⟩), hs_.mono (Sub.get (.c rfl (.c rfl (.c rfl (.c rfl (.c rfl (.c rfl (.c rfl (.c rfl (.c rfl .n)))))))))), hw_.keep (.c (.t (.t (.t .h))) (.c (.t (.t (.t .h))) (.c .h (.c .h (.c .h .n)))))⟩) (fun ⟨i, W, KV, LM, M2, X2⟩ ⟨r_0, r_1, r_2, r_3, r_4, r_5, r_6⟩ => ?_)
   show SC _ _ _ _ _ ⟨[(3, .pointer (some ⟨b2, 0, none⟩)), (4, .int .i64 (([] : List TV).length : Int)), (5, .int .i64 ((([] : List TV) ++ [TV.mk (TN.mk 4 false 0 ⟨#[111, 107]⟩ [] []) none 0 none 0]).length : Int)), (6, .int .i64 ((((([] : List TV) ++ [TV.mk (TN.mk 4 false 0 ⟨#[111, 107]⟩ [] []) none 0 none 0]) ++ [TV.mk (TN.mk 2 op 0 ⟨#[]⟩ [] []) none 0 none 0]).length : Int) + 8)), (8, KV), (11, .int .i64 (((((([] : List TV) ++ [TV.mk (TN.mk 4 false 0 ⟨#[111, 107]⟩ [] []) none 0 none 0]) ++ [TV.mk (TN.mk 2 op 0 ⟨#[]⟩ [] []) none 0 none 0]) ++ M11) ++ M).length : Int)), (76, .slice kA lf.length kc), (77, .int .i64 (lf.length : Int)), (78, .int .i64 i)], [cel b2 [W] 65, rw_ eTV 90 (W) LM, nest 9 3 M2, rw_ eZ 3 (KV) X2, nest 9 3 (((((([] : List TV) ++ [TV.mk (TN.mk 4 false 0 ⟨#[111, 107]⟩ [] []) none 0 none 0]) ++ [TV.mk (TN.mk 2 op 0 ⟨#[]⟩ [] []) none 0 none 0]) ++ M11) ++ M) ++ [TV.mk (TN.mk 5 false 0 ⟨#[]⟩ [] X) none 0 A27 c28])], S, wf⟩
   refine .seq ?_
   refine .region ?_
   refine .ev (ev_cmp rfl rfl rfl rfl) rfl rfl rfl ?_
   refine .go (fun _ _ h => h) ?_
   refine .seq ?_
   refine .condI rfl bD (fun h32 => ?_) (fun h32 => ?_)
   ·
    refine .skipgo (fun _ _ h => h) ?_
    refine .seq ?_
    refine .block ?_
    refine .seq ?_
    refine .region ?_
    refine .ev (ev_ix rfl Try.underlying28 ty62 rfl rfl (by omega) (by omega) (fun _ _ => Fr.adr (i := i) hK (by omega) (by omega))) rfl rfl rfl ?_
    refine .ev (ev_lda rfl rfl (At.w (Fr.el (i := i) hK (by omega) (by omega))) ty62) rfl rfl rfl ?_
    refine .cons (st_alloc rfl rfl rfl rfl zf62 (fun b33 => ?_))
    refine .cons (st_storea (l' := [.bool ((gt lf i).ship), .int .i64 ((gt lf i).item)]) rfl rfl rfl ty62 rfl rfl rfl .h rfl rfl ?_)
    refine .go (fun _ _ h => h) ?_
    refine SC.draw mo [cel b2 [W] 65, rw_ eTV 90 (W) LM, rw_ eZ 3 (KV) X2] [] (.c (.t .h) (.c (.t .h) (.c (.t (.t .h)) .n))) (fun _ _ _ c hc => by cases hc) (fun wf_34 hl_34 hx_34 hR_34 => ?_)
    refine SR.tk 0 rfl (by kernel_rfl) rfl rfl rfl (ev_mv rfl rfl) ?_
    refine SR.tk 1 rfl (by kernel_rfl) rfl rfl rfl (ev_mv rfl rfl) ?_
    refine SR.tk 2 rfl (by kernel_rfl) rfl rfl rfl (ev_mv rfl rfl) ?_
    refine SR.tk 3 rfl (by kernel_rfl) rfl rfl rfl (ev_lda (cs := [.bool ((gt lf i).ship), .int .i64 ((gt lf i).item)]) rfl rfl (At.d (At.lent hR_34 0 rfl rfl)) ty62) ?_
    refine SR.tk 7 rfl (by kernel_rfl) rfl rfl rfl (ev_mv rfl rfl) ?_
    refine SR.tk 8 rfl (by kernel_rfl) rfl rfl rfl (ev_fa rfl fo62_1 rfl (r := 1) rfl) ?_
    refine SR.tk 9 rfl (by kernel_rfl) rfl rfl rfl (ev_ld1 rfl ty3 rfl (At.d (At.lent hR_34 0 rfl rfl))) ?_
    refine SR.one (j := 4) (by kernel_rfl) rfl (st_callk rfl rfl rfl rfl hbd28 rfl .n (word_ ((gt lf i).ship) ((gt lf i).item) _ _) ⟨tt0, ?_⟩)
    refine SR.one (j := 5) (by kernel_rfl) rfl (st_call0 rfl rfl rfl rfl hbd22 rfl (.c .h (.c .h .n)) (mtext b2 W LM (wordT ((gt lf i).ship)) _ _ (by first | ((try simp only [LL]) <;> omega) | omega | (simp <;> omega))) (fun v_q36 C_q36 q36 => ⟨tt0, ?_⟩))
    obtain ⟨u35, rfl, rfl⟩ := q36
    show SR _ _ _ _ _ _ _ _ _ ⟨_, _ :: _ :: _, _, _⟩
    refine SR.tk 6 rfl (by kernel_rfl) rfl rfl rfl (ev_any (v := .agg #[.string ⟨#[116, 121, 112, 101]⟩, .int .i64 (LM.length : Int)]) rfl (by kernel_rfl) (fun _ => by kernel_rfl)) ?_
    refine SR.one (j := 10) (by kernel_rfl) rfl (st_call0 rfl rfl rfl rfl hbd23 rfl (.c .h (.c .h .n)) (mnum b2 u35 (LM ++ [TV.mk (TN.mk 4 false 0 (wordT ((gt lf i).ship)) [] []) none 0 none 0]) ((gt lf i).item) _ _ (by first | ((try simp only [LL]) <;> omega) | omega | (simp <;> omega))) (fun v_q38 C_q38 q38 => ⟨tt0, ?_⟩))
    obtain ⟨u37, rfl, rfl⟩ := q38
    show SR _ _ _ _ _ _ _ _ _ ⟨_, _ :: _ :: _, _, _⟩
    refine SR.tk 11 rfl (by kernel_rfl) rfl rfl rfl (ev_any (v := .agg #[.string ⟨#[105, 116, 101, 109]⟩, .int .i64 ((LM ++ [TV.mk (TN.mk 4 false 0 (wordT ((gt lf i).ship)) [] []) none 0 none 0]).length : Int)]) rfl (by kernel_rfl) (fun _ => by kernel_rfl)) ?_
    refine SR.one (j := 12) (by kernel_rfl) rfl (st_lit ePr (e := 69) (l := [(Pr.mk ⟨#[116, 121, 112, 101]⟩ (LM.length : Int)), (Pr.mk ⟨#[105, 116, 101, 109]⟩ ((LM ++ [TV.mk (TN.mk 4 false 0 (wordT ((gt lf i).ship)) [] []) none 0 none 0]).length : Int))]) rfl rfl rfl rfl (by kernel_rfl) rfl rfl (fun w => by kernel_rfl) (fun b39 => ⟨tt0, ?_⟩))
    refine SR.one (j := 13) (by kernel_rfl) rfl (st_lend0 rfl rfl rfl rfl hbd21 rfl (.c (.t .h) (.c (.t .h) .n)) (.c .h .n) (fun w_ hw => mobject b2 u37 ((LM ++ [TV.mk (TN.mk 4 false 0 (wordT ((gt lf i).ship)) [] []) none 0 none 0]) ++ [TV.mk (TN.mk 3 false ((gt lf i).item) ⟨#[]⟩ [] []) none 0 none 0]) (some ⟨b39, 0, none⟩) 2 2 [(Pr.mk ⟨#[116, 121, 112, 101]⟩ (LM.length : Int)), (Pr.mk ⟨#[105, 116, 101, 109]⟩ ((LM ++ [TV.mk (TN.mk 4 false 0 (wordT ((gt lf i).ship)) [] []) none 0 none 0]).length : Int))] _ _ (Fr.lend hw 0 rfl (by first | ((try simp only [LL]) <;> omega) | omega | (simp <;> omega))) (by first | ((try simp only [LL]) <;> omega) | omega | (simp <;> omega)) (by first | ((try simp only [LL]) <;> omega) | omega | (simp <;> omega)) (by first | ((try simp only [LL]) <;> omega) | omega | (simp <;> omega))) (fun v_q45 C_q45 q45 => ⟨tt0, ?_⟩))
    obtain ⟨u40, nA41, nc42, kA43, kc44, rfl, rfl⟩ := q45
    show SR _ _ _ _ _ _ _ _ _ ⟨_, _ :: _ :: _ :: _ :: _ :: _, _, _⟩
    refine SR.one (j := 14) (by kernel_rfl) rfl (st_lit eZ (e := 3) (l := [(((LM ++ [TV.mk (TN.mk 4 false 0 (wordT ((gt lf i).ship)) [] []) none 0 none 0]) ++ [TV.mk (TN.mk 3 false ((gt lf i).item) ⟨#[]⟩ [] []) none 0 none 0]).length : Int)]) rfl rfl rfl rfl (by kernel_rfl) rfl rfl (fun w => by kernel_rfl) (fun b46 => ⟨tt0, ?_⟩))
    refine SR.one (j := 15) (by kernel_rfl) rfl (st_app (E := eZ) (m := [(((LM ++ [TV.mk (TN.mk 4 false 0 (wordT ((gt lf i).ship)) [] []) none 0 none 0]) ++ [TV.mk (TN.mk 3 false ((gt lf i).item) ⟨#[]⟩ [] []) none 0 none 0]).length : Int)]) rfl rfl rfl rfl Try.underlying56 ai3 rfl rfl rfl (.t (.t (.t (.t (.t (.t .h)))))) (by first | rfl | omega | simp) (row_src 0 rfl) (by first | ((try simp only [LL]) <;> omega) | omega | (simp <;> omega)) rfl (fun v47 => ⟨tt0, ?_⟩))
    refine SR.tk 16 rfl (by kernel_rfl) rfl rfl rfl (ev_as rfl rfl) ?_
    refine SR.fin (by kernel_rfl) hl_34 hx_34 hR_34 (.c (.c (.c (.c (.c (.c (.c .n))))))) ?_
    refine SQ.go (fun _ _ h => h) ?_
    refine SC.packl (TN.mk 4 false 0 (wordT ((gt lf i).ship)) [] []) (.t (.t (.t (.t (.t (.t (.t (.t .h)))))))) rfl rfl ?_
    refine SC.packl (TN.mk 3 false ((gt lf i).item) ⟨#[]⟩ [] []) .h rfl rfl ?_
    refine SC.pack (TV.mk (TN.mk 6 false 0 ⟨#[]⟩ ([(Pr.mk ⟨#[116, 121, 112, 101]⟩ (LM.length : Int)), (Pr.mk ⟨#[105, 116, 101, 109]⟩ ((LM ++ [TV.mk (TN.mk 4 false 0 (wordT ((gt lf i).ship)) [] []) none 0 none 0]).length : Int))].map Pr.name) ([(Pr.mk ⟨#[116, 121, 112, 101]⟩ (LM.length : Int)), (Pr.mk ⟨#[105, 116, 101, 109]⟩ ((LM ++ [TV.mk (TN.mk 4 false 0 (wordT ((gt lf i).ship)) [] []) none 0 none 0]).length : Int))].map Pr.pos)) nA41 nc42 kA43 kc44) (.c .h (.c (.t (.t (.t (.t .h)))) (.c (.t (.t (.t (.t .h)))) .n))) (by first | omega | (simp; done) | (simp; omega)) (by first | omega | (simp; done) | (simp; omega)) ?_
    refine .region ?_
    refine .ev (ev_add rfl rfl rfl (r := (i + 1)) rfl (by omega) (by omega)) rfl rfl rfl ?_
    refine .ev (ev_mv rfl rfl) rfl rfl rfl ?_
    exact SP.nil (SQ.roundb (X := Int × Value × Value × (List TV) × (List TV) × (List Int)) (x := (i, W, (.slice A27 X.length c28), LM, M2, X2)) ⟨(i + 1), u40, v47, (((LM ++ [TV.mk (TN.mk 4 false 0 (wordT ((gt lf i).ship)) [] []) none 0 none 0]) ++ [TV.mk (TN.mk 3 false ((gt lf i).item) ⟨#[]⟩ [] []) none 0 none 0]) ++ [TV.mk (TN.mk 6 false 0 ⟨#[]⟩ ([(Pr.mk ⟨#[116, 121, 112, 101]⟩ (LM.length : Int)), (Pr.mk ⟨#[105, 116, 101, 109]⟩ ((LM ++ [TV.mk (TN.mk 4 false 0 (wordT ((gt lf i).ship)) [] []) none 0 none 0]).length : Int))].map Pr.name) ([(Pr.mk ⟨#[116, 121, 112, 101]⟩ (LM.length : Int)), (Pr.mk ⟨#[105, 116, 101, 109]⟩ ((LM ++ [TV.mk (TN.mk 4 false 0 (wordT ((gt lf i).ship)) [] []) none 0 none 0]).length : Int))].map Pr.pos)) nA41 nc42 kA43 kc44]), (((M2 ++ [TV.mk (TN.mk 4 false 0 (wordT ((gt lf i).ship)) [] []) none 0 none 0]) ++ [TV.mk (TN.mk 3 false ((gt lf i).item) ⟨#[]⟩ [] []) none 0 none 0]) ++ [TV.mk (TN.mk 6 false 0 ⟨#[]⟩ ([(Pr.mk ⟨#[116, 121, 112, 101]⟩ (LM.length : Int)), (Pr.mk ⟨#[105, 116, 101, 109]⟩ ((LM ++ [TV.mk (TN.mk 4 false 0 (wordT ((gt lf i).ship)) [] []) none 0 none 0]).length : Int))].map Pr.name) ([(Pr.mk ⟨#[116, 121, 112, 101]⟩ (LM.length : Int)), (Pr.mk ⟨#[105, 116, 101, 109]⟩ ((LM ++ [TV.mk (TN.mk 4 false 0 (wordT ((gt lf i).ship)) [] []) none 0 none 0]).length : Int))].map Pr.pos)) nA41 nc42 kA43 kc44]), (X2 ++ [(((LM ++ [TV.mk (TN.mk 4 false 0 (wordT ((gt lf i).ship)) [] []) none 0 none 0]) ++ [TV.mk (TN.mk 3 false ((gt lf i).item) ⟨#[]⟩ [] []) none 0 none 0]).length : Int)])⟩ (by exact ⟨by omega, by omega, by rw [r_2]; simp only [List.append_assoc], tasks_next (b := (LM.length : Int)) r_3 (by simp only [List.length_append, List.length_cons, List.length_nil]; omega) rfl (by simp only [List.map_cons, List.map_nil, List.map_append, List.length_append, List.length_cons, List.length_nil, List.cons_append, List.nil_append, List.cons.injEq, and_true, true_and]; and_intros <;> omega) (by simp <;> omega) (by omega) (by omega), by simp only [List.length_append, List.length_cons, List.length_nil]; omega, by rw [List.length_append]; simp; omega, by simp only [List.length_append, List.length_cons, List.length_nil]; omega⟩) (by dsimp only; omega) (Sub.get (.c rfl (.c rfl (.c rfl (.c rfl (.c rfl (.c rfl (.c rfl (.c rfl (.c rfl .n)))))))))) (fun w hw => hw.keep (.c (.t (.t (.t .h))) (.c (.t (.t (.t .h))) (.c .h (.c .h (.c (.t (.t (.t .h))) .n)))))))
   ·
    refine .exit (fun _ _ h => h) ?_
    refine .seq ?_
    refine .region ?_
    refine .ev (ev_mv rfl rfl) rfl rfl rfl ?_
    refine .ev (ev_mv rfl rfl) rfl rfl rfl ?_
    refine .ev (ev_any (v := .agg #[.string ⟨#[115, 116, 97, 116, 117, 115]⟩, .int .i64 (([] : List TV).length : Int)]) rfl (by kernel_rfl) (fun _ => by kernel_rfl)) rfl rfl rfl ?_
    refine .ev (ev_mv rfl rfl) rfl rfl rfl ?_
    refine .ev (ev_any (v := .agg #[.string ⟨#[111, 112, 116, 105, 109, 97, 108]⟩, .int .i64 ((([] : List TV) ++ [TV.mk (TN.mk 4 false 0 ⟨#[111, 107]⟩ [] []) none 0 none 0]).length : Int)]) rfl (by kernel_rfl) (fun _ => by kernel_rfl)) rfl rfl rfl ?_
    refine .ev (ev_mv rfl rfl) rfl rfl rfl ?_
    refine .ev (ev_any (v := .agg #[.string ⟨#[115, 117, 109, 109, 97, 114, 121]⟩, .int .i64 ((((([] : List TV) ++ [TV.mk (TN.mk 4 false 0 ⟨#[111, 107]⟩ [] []) none 0 none 0]) ++ [TV.mk (TN.mk 2 op 0 ⟨#[]⟩ [] []) none 0 none 0]).length : Int) + 8)]) rfl (by kernel_rfl) (fun _ => by kernel_rfl)) rfl rfl rfl ?_
    refine .ev (ev_mv rfl rfl) rfl rfl rfl ?_
    refine .ev (ev_any (v := .agg #[.string ⟨#[114, 111, 117, 116, 101, 115]⟩, .int .i64 (((((([] : List TV) ++ [TV.mk (TN.mk 4 false 0 ⟨#[111, 107]⟩ [] []) none 0 none 0]) ++ [TV.mk (TN.mk 2 op 0 ⟨#[]⟩ [] []) none 0 none 0]) ++ M11) ++ M).length : Int)]) rfl (by kernel_rfl) (fun _ => by kernel_rfl)) rfl rfl rfl ?_
    refine .ev (ev_mv rfl rfl) rfl rfl rfl ?_
    refine .ev (ev_mv rfl rfl) rfl rfl rfl ?_
    refine .know (row_len 3 rfl) (fun hv50 => ?_)
    obtain ⟨A48, c49, rfl, hv50_1, hv50_2⟩ := hv50
    unfold maxLen at hv50_2
    refine .cons (st_call0 rfl rfl rfl rfl hbd27 rfl (.c .h (.c .h .n)) (mlist b2 W LM A48 c49 X2 _ _ (by first | ((try simp only [LL]) <;> omega) | omega | (simp <;> omega))) (fun v_q52 C_q52 q52 => ?_))
    obtain ⟨u51, rfl, rfl⟩ := q52
    show SP _ _ _ _ _ _ ⟨_, _ :: _ :: _, _, _⟩
    refine .ev (ev_any (v := .agg #[.string ⟨#[117, 110, 97, 115, 115, 105, 103, 110, 101, 100]⟩, .int .i64 (LM.length : Int)]) rfl (by kernel_rfl) (fun _ => by kernel_rfl)) rfl rfl rfl ?_
    refine .cons (st_lit ePr (e := 69) (l := [(Pr.mk ⟨#[115, 116, 97, 116, 117, 115]⟩ (([] : List TV).length : Int)), (Pr.mk ⟨#[111, 112, 116, 105, 109, 97, 108]⟩ ((([] : List TV) ++ [TV.mk (TN.mk 4 false 0 ⟨#[111, 107]⟩ [] []) none 0 none 0]).length : Int)), (Pr.mk ⟨#[115, 117, 109, 109, 97, 114, 121]⟩ ((((([] : List TV) ++ [TV.mk (TN.mk 4 false 0 ⟨#[111, 107]⟩ [] []) none 0 none 0]) ++ [TV.mk (TN.mk 2 op 0 ⟨#[]⟩ [] []) none 0 none 0]).length : Int) + 8)), (Pr.mk ⟨#[114, 111, 117, 116, 101, 115]⟩ (((((([] : List TV) ++ [TV.mk (TN.mk 4 false 0 ⟨#[111, 107]⟩ [] []) none 0 none 0]) ++ [TV.mk (TN.mk 2 op 0 ⟨#[]⟩ [] []) none 0 none 0]) ++ M11) ++ M).length : Int)), (Pr.mk ⟨#[117, 110, 97, 115, 115, 105, 103, 110, 101, 100]⟩ (LM.length : Int))]) rfl rfl rfl rfl (by kernel_rfl) rfl rfl (fun w => by kernel_rfl) (fun b53 => ?_))
    refine .cons (st_lend0 rfl rfl rfl rfl hbd21 rfl (.c (.t .h) (.c (.t .h) .n)) (.c .h .n) (fun w_ hw => mobject b2 u51 (LM ++ [TV.mk (TN.mk 5 false 0 ⟨#[]⟩ [] X2) none 0 A48 c49]) (some ⟨b53, 0, none⟩) 5 5 [(Pr.mk ⟨#[115, 116, 97, 116, 117, 115]⟩ (([] : List TV).length : Int)), (Pr.mk ⟨#[111, 112, 116, 105, 109, 97, 108]⟩ ((([] : List TV) ++ [TV.mk (TN.mk 4 false 0 ⟨#[111, 107]⟩ [] []) none 0 none 0]).length : Int)), (Pr.mk ⟨#[115, 117, 109, 109, 97, 114, 121]⟩ ((((([] : List TV) ++ [TV.mk (TN.mk 4 false 0 ⟨#[111, 107]⟩ [] []) none 0 none 0]) ++ [TV.mk (TN.mk 2 op 0 ⟨#[]⟩ [] []) none 0 none 0]).length : Int) + 8)), (Pr.mk ⟨#[114, 111, 117, 116, 101, 115]⟩ (((((([] : List TV) ++ [TV.mk (TN.mk 4 false 0 ⟨#[111, 107]⟩ [] []) none 0 none 0]) ++ [TV.mk (TN.mk 2 op 0 ⟨#[]⟩ [] []) none 0 none 0]) ++ M11) ++ M).length : Int)), (Pr.mk ⟨#[117, 110, 97, 115, 115, 105, 103, 110, 101, 100]⟩ (LM.length : Int))] _ _ (Fr.lend hw 0 rfl (by first | ((try simp only [LL]) <;> omega) | omega | (simp <;> omega))) (by first | ((try simp only [LL]) <;> omega) | omega | (simp <;> omega)) (by first | ((try simp only [LL]) <;> omega) | omega | (simp <;> omega)) (by first | ((try simp only [LL]) <;> omega) | omega | (simp <;> omega))) (fun v_q59 C_q59 q59 => ?_))
    obtain ⟨u54, nA55, nc56, kA57, kc58, rfl, rfl⟩ := q59
    show SP _ _ _ _ _ _ ⟨_, _ :: _ :: _ :: _ :: _ :: _, _, _⟩
    refine .go (fun _ _ h => h) ?_
    refine .seq ?_
    refine .region ?_
    refine .ev (ev_mv rfl rfl) rfl rfl rfl ?_
    refine .ev (ev_nil rfl rfl) rfl rfl rfl ?_
    refine .ev (ev_fa rfl fo65_0 rfl (r := 0) rfl) rfl rfl rfl ?_
    refine .ev (ev_ld1 rfl ty34 rfl (At.own1 0 rfl rfl)) rfl rfl rfl ?_
    refine .ev (ev_as rfl rfl) rfl rfl rfl ?_
    refine .go (fun _ _ h => h) ?_
    subst r_2
    refine SC.nestapp (.c (.t (.t (.t (.t (.t (.t (.t .h))))))) (.c (.t (.t (.t (.t (.t .h))))) .n)) ?_
    refine SC.nilrow eS 9 ?_
    refine SC.pack (TV.mk (TN.mk 5 false 0 ⟨#[]⟩ [] X2) none 0 A48 c49) (.c (.t .h) (.c .h (.c (.t (.t (.t (.t (.t .h))))) .n))) (by first | omega | (simp; done) | (simp; omega)) (by first | omega | (simp; done) | (simp; omega)) ?_
    refine SC.pack (TV.mk (TN.mk 6 false 0 ⟨#[]⟩ ([(Pr.mk ⟨#[115, 116, 97, 116, 117, 115]⟩ (([] : List TV).length : Int)), (Pr.mk ⟨#[111, 112, 116, 105, 109, 97, 108]⟩ ((([] : List TV) ++ [TV.mk (TN.mk 4 false 0 ⟨#[111, 107]⟩ [] []) none 0 none 0]).length : Int)), (Pr.mk ⟨#[115, 117, 109, 109, 97, 114, 121]⟩ ((((([] : List TV) ++ [TV.mk (TN.mk 4 false 0 ⟨#[111, 107]⟩ [] []) none 0 none 0]) ++ [TV.mk (TN.mk 2 op 0 ⟨#[]⟩ [] []) none 0 none 0]).length : Int) + 8)), (Pr.mk ⟨#[114, 111, 117, 116, 101, 115]⟩ (((((([] : List TV) ++ [TV.mk (TN.mk 4 false 0 ⟨#[111, 107]⟩ [] []) none 0 none 0]) ++ [TV.mk (TN.mk 2 op 0 ⟨#[]⟩ [] []) none 0 none 0]) ++ M11) ++ M).length : Int)), (Pr.mk ⟨#[117, 110, 97, 115, 115, 105, 103, 110, 101, 100]⟩ (((((((([] : List TV) ++ [TV.mk (TN.mk 4 false 0 ⟨#[111, 107]⟩ [] []) none 0 none 0]) ++ [TV.mk (TN.mk 2 op 0 ⟨#[]⟩ [] []) none 0 none 0]) ++ M11) ++ M) ++ [TV.mk (TN.mk 5 false 0 ⟨#[]⟩ [] X) none 0 A27 c28]) ++ M2).length : Int))].map Pr.name) ([(Pr.mk ⟨#[115, 116, 97, 116, 117, 115]⟩ (([] : List TV).length : Int)), (Pr.mk ⟨#[111, 112, 116, 105, 109, 97, 108]⟩ ((([] : List TV) ++ [TV.mk (TN.mk 4 false 0 ⟨#[111, 107]⟩ [] []) none 0 none 0]).length : Int)), (Pr.mk ⟨#[115, 117, 109, 109, 97, 114, 121]⟩ ((((([] : List TV) ++ [TV.mk (TN.mk 4 false 0 ⟨#[111, 107]⟩ [] []) none 0 none 0]) ++ [TV.mk (TN.mk 2 op 0 ⟨#[]⟩ [] []) none 0 none 0]).length : Int) + 8)), (Pr.mk ⟨#[114, 111, 117, 116, 101, 115]⟩ (((((([] : List TV) ++ [TV.mk (TN.mk 4 false 0 ⟨#[111, 107]⟩ [] []) none 0 none 0]) ++ [TV.mk (TN.mk 2 op 0 ⟨#[]⟩ [] []) none 0 none 0]) ++ M11) ++ M).length : Int)), (Pr.mk ⟨#[117, 110, 97, 115, 115, 105, 103, 110, 101, 100]⟩ (((((((([] : List TV) ++ [TV.mk (TN.mk 4 false 0 ⟨#[111, 107]⟩ [] []) none 0 none 0]) ++ [TV.mk (TN.mk 2 op 0 ⟨#[]⟩ [] []) none 0 none 0]) ++ M11) ++ M) ++ [TV.mk (TN.mk 5 false 0 ⟨#[]⟩ [] X) none 0 A27 c28]) ++ M2).length : Int))].map Pr.pos)) nA55 nc56 kA57 kc58) (.c .h (.c (.t (.t .h)) (.c (.t (.t .h)) .n))) (by first | omega | (simp; done) | (simp; omega)) (by first | omega | (simp; done) | (simp; omega)) ?_
    exact .ret (fun _ _ h => h) (ret1 Try.results11 rfl (.c (.t (.t .h)) (.c .h .n)) ⟨u54, ((((((((([] : List TV) ++ [TV.mk (TN.mk 4 false 0 ⟨#[111, 107]⟩ [] []) none 0 none 0]) ++ [TV.mk (TN.mk 2 op 0 ⟨#[]⟩ [] []) none 0 none 0]) ++ M11) ++ M) ++ [TV.mk (TN.mk 5 false 0 ⟨#[]⟩ [] X) none 0 A27 c28]) ++ M2) ++ [TV.mk (TN.mk 5 false 0 ⟨#[]⟩ [] X2) none 0 A48 c49]) ++ [TV.mk (TN.mk 6 false 0 ⟨#[]⟩ ([(Pr.mk ⟨#[115, 116, 97, 116, 117, 115]⟩ (([] : List TV).length : Int)), (Pr.mk ⟨#[111, 112, 116, 105, 109, 97, 108]⟩ ((([] : List TV) ++ [TV.mk (TN.mk 4 false 0 ⟨#[111, 107]⟩ [] []) none 0 none 0]).length : Int)), (Pr.mk ⟨#[115, 117, 109, 109, 97, 114, 121]⟩ ((((([] : List TV) ++ [TV.mk (TN.mk 4 false 0 ⟨#[111, 107]⟩ [] []) none 0 none 0]) ++ [TV.mk (TN.mk 2 op 0 ⟨#[]⟩ [] []) none 0 none 0]).length : Int) + 8)), (Pr.mk ⟨#[114, 111, 117, 116, 101, 115]⟩ (((((([] : List TV) ++ [TV.mk (TN.mk 4 false 0 ⟨#[111, 107]⟩ [] []) none 0 none 0]) ++ [TV.mk (TN.mk 2 op 0 ⟨#[]⟩ [] []) none 0 none 0]) ++ M11) ++ M).length : Int)), (Pr.mk ⟨#[117, 110, 97, 115, 115, 105, 103, 110, 101, 100]⟩ (((((((([] : List TV) ++ [TV.mk (TN.mk 4 false 0 ⟨#[111, 107]⟩ [] []) none 0 none 0]) ++ [TV.mk (TN.mk 2 op 0 ⟨#[]⟩ [] []) none 0 none 0]) ++ M11) ++ M) ++ [TV.mk (TN.mk 5 false 0 ⟨#[]⟩ [] X) none 0 A27 c28]) ++ M2).length : Int))].map Pr.name) ([(Pr.mk ⟨#[115, 116, 97, 116, 117, 115]⟩ (([] : List TV).length : Int)), (Pr.mk ⟨#[111, 112, 116, 105, 109, 97, 108]⟩ ((([] : List TV) ++ [TV.mk (TN.mk 4 false 0 ⟨#[111, 107]⟩ [] []) none 0 none 0]).length : Int)), (Pr.mk ⟨#[115, 117, 109, 109, 97, 114, 121]⟩ ((((([] : List TV) ++ [TV.mk (TN.mk 4 false 0 ⟨#[111, 107]⟩ [] []) none 0 none 0]) ++ [TV.mk (TN.mk 2 op 0 ⟨#[]⟩ [] []) none 0 none 0]).length : Int) + 8)), (Pr.mk ⟨#[114, 111, 117, 116, 101, 115]⟩ (((((([] : List TV) ++ [TV.mk (TN.mk 4 false 0 ⟨#[111, 107]⟩ [] []) none 0 none 0]) ++ [TV.mk (TN.mk 2 op 0 ⟨#[]⟩ [] []) none 0 none 0]) ++ M11) ++ M).length : Int)), (Pr.mk ⟨#[117, 110, 97, 115, 115, 105, 103, 110, 101, 100]⟩ (((((((([] : List TV) ++ [TV.mk (TN.mk 4 false 0 ⟨#[111, 107]⟩ [] []) none 0 none 0]) ++ [TV.mk (TN.mk 2 op 0 ⟨#[]⟩ [] []) none 0 none 0]) ++ M11) ++ M) ++ [TV.mk (TN.mk 5 false 0 ⟨#[]⟩ [] X) none 0 A27 c28]) ++ M2).length : Int))].map Pr.pos)) nA55 nc56 kA57 kc58]), (tree_lay p14 (by simp <;> omega) hq3 (by simp <;> omega) (by have h_ := r_3; rw [List.take_of_length_le (by omega)] at h_; exact h_) (by simp <;> omega) rfl (by simp only [List.map_cons, List.map_nil, List.map_append, List.length_append, List.length_cons, List.length_nil, List.cons_append, List.nil_append, List.cons.injEq, and_true, true_and]; and_intros <;> omega)), (by simp only [List.length_append, List.length_cons, List.length_nil]; omega), rfl, rfl⟩)
end Go.Proofs.Ythmkelkefmfmgaa.Sx
set_option maxRecDepth 20000
set_option maxHeartbeats 4000000
set_option linter.unusedVariables false
set_option linter.unusedSimpArgs false
namespace Go.Proofs.Ythmkelkefmfmgaa.Sx.FR
open Go Go.SX Go.Proofs
theorem zf90 : (Try.prog.info? 90).bind (fun i => i.zero.map Value.cells) = some (List.toArray [.int .i64 0, .bool false, .int .i64 0, .string ⟨#[]⟩, .slice none 0 0, .slice none 0 0]) := by kernel_rfl
theorem fo112_0 : fo Try.prog 112 0 = some 0 := by kernel_rfl
theorem ty34 : ty Try.prog 34 = some (false, 1) := by kernel_rfl
theorem fo112_1 : fo Try.prog 112 1 = some 1 := by kernel_rfl
theorem ty3 : ty Try.prog 3 = some (false, 1) := by kernel_rfl
theorem ty90 : ty Try.prog 90 = some (true, 6) := by kernel_rfl
theorem zf112 : (Try.prog.info? 112).bind (fun i => i.zero.map Value.cells) = some (List.toArray [.slice none 0 0, .int .i64 0]) := by kernel_rfl
theorem ty112 : ty Try.prog 112 = some (true, 2) := by kernel_rfl
theorem hbd61 : hasBody Try.prog 61 = true := by kernel_rfl
theorem fo90_5 : fo Try.prog 90 5 = some 5 := by kernel_rfl
theorem ty56 : ty Try.prog 56 = some (false, 1) := by kernel_rfl
theorem mo : Try.prog.follows .mixedOrders = true := by kernel_rfl
theorem hbd60 : hasBody Try.prog 60 = true := by kernel_rfl
theorem ty9 : ty Try.prog 9 = some (false, 1) := by kernel_rfl
theorem ai112 : (Try.prog.info? 112).map (fun i => (i.zero, i.size, i.bytes)) = some (some (.agg #[.slice none 0 0, .int .i64 0]), 2, 32) := by kernel_rfl
end Go.Proofs.Ythmkelkefmfmgaa.Sx.FR
namespace Go.Proofs.Ythmkelkefmfmgaa.Sx
open Go Go.SX Go.Proofs FR
theorem value_ (A : Option Addr) (n : Nat) (c : Nat) (l : List TV) (i : Int) (S : Nat → Prop) (wf : World) (hP : Fr eTV S wf A l) (hn : l.length = n) (hi : 0 ≤ i ∧ i < n) :
  TR0 Try.prog 61 [.agg #[.slice A n c, .int .i64 i]] [] S wf (fun v_ C_ => v_ = .agg #[.int .i64 ((gt l i).v.kind), .bool ((gt l i).v.truth), .int .i64 ((gt l i).v.num), .string ((gt l i).v.text), .slice ((gt l i).nA) ((gt l i).v.ns.length) ((gt l i).nc), .slice ((gt l i).kA) ((gt l i).v.ks.length) ((gt l i).kc)] ∧ C_ = []) := by
 have hla := hP.len
 refine TR.mk Try.func61 rfl Try.ntmps61 rfl rfl (fun w_ => ?_)
 refine .seq ?_
 refine .region ?_
 refine .cons (st_boxa rfl rfl rfl rfl rfl (fun b1 => ?_))
 refine .cons (st_alloc rfl rfl rfl rfl zf90 (fun b2 => ?_))
 refine .go (fun _ _ h => h) ?_
 refine .seq ?_
 refine .region ?_
 refine .ev (ev_fa rfl fo112_0 rfl (r := 0) rfl) rfl rfl rfl ?_
 refine .ev (ev_ld1 rfl ty34 rfl (At.own1 1 rfl rfl)) rfl rfl rfl ?_
 refine .ev (ev_fa rfl fo112_1 rfl (r := 1) rfl) rfl rfl rfl ?_
 refine .ev (ev_ld1 rfl ty3 rfl (At.own1 1 rfl rfl)) rfl rfl rfl ?_
 refine .ev (ev_ix rfl Try.underlying34 ty90 rfl rfl (by omega) (by omega) (fun _ _ => Fr.adr (i := i) hP (by omega) (by omega))) rfl rfl rfl ?_
 refine .ev (ev_lda rfl rfl (At.w (Fr.el (i := i) hP (by omega) (by omega))) ty90) rfl rfl rfl ?_
 refine .cons (st_storea (l' := [.int .i64 ((gt l i).v.kind), .bool ((gt l i).v.truth), .int .i64 ((gt l i).v.num), .string ((gt l i).v.text), .slice ((gt l i).nA) ((gt l i).v.ns.length) ((gt l i).nc), .slice ((gt l i).kA) ((gt l i).v.ks.length) ((gt l i).kc)]) rfl rfl rfl ty90 rfl rfl rfl .h rfl rfl ?_)
 refine .go (fun _ _ h => h) ?_
 exact .ret (fun _ _ h => h) (retv1 Try.results61 (.c 0 rfl rfl ty90) .n ⟨rfl, rfl⟩)
theorem kid_ (A : Option Addr) (n : Nat) (c : Nat) (l : List TV) (i : Int) (k : Int) (S : Nat → Prop) (wf : World) (hP : Fr eTV S wf A l) (hN : NT S wf l) (hn : l.length = n) (hi : 0 ≤ i ∧ i < n) (hk : kidOk l i k) :
  TR0 Try.prog 60 [.agg #[.slice A n c, .int .i64 i], .int .i64 k] [] S wf (fun v_ C_ => v_ = .agg #[.slice A n c, .int .i64 (kidT l i k)] ∧ C_ = []) := by
 have hla := hP.len
 have hk2 := hk
 obtain ⟨hk3, hk4, hk5, hk6⟩ := hk2
 unfold kidT at hk5 hk6
 have hi2 := hi.2
 refine TR.mk Try.func60 rfl Try.ntmps60 rfl rfl (fun w_ => ?_)
 refine .seq ?_
 refine .region ?_
 refine .cons (st_boxa rfl rfl rfl rfl rfl (fun b1 => ?_))
 refine .cons (st_alloc rfl rfl rfl rfl zf112 (fun b2 => ?_))
 refine .go (fun _ _ h => h) ?_
 refine .seq ?_
 refine .region ?_
 refine .ev (ev_lda rfl rfl (At.whole 1 rfl) ty112) rfl rfl rfl ?_
 refine .cons (st_callk rfl rfl rfl rfl hbd61 rfl .n (value_ A n c l i _ _ hP (by first | ((try simp only [LL]) <;> omega) | omega | (simp <;> omega)) (by omega)) ?_)
 refine .cons (st_alloc rfl rfl rfl rfl zf90 (fun b3 => ?_))
 refine .cons (st_storea (l' := [.int .i64 ((gt l i).v.kind), .bool ((gt l i).v.truth), .int .i64 ((gt l i).v.num), .string ((gt l i).v.text), .slice ((gt l i).nA) ((gt l i).v.ns.length) ((gt l i).nc), .slice ((gt l i).kA) ((gt l i).v.ks.length) ((gt l i).kc)]) rfl rfl rfl ty90 rfl rfl rfl .h rfl rfl ?_)
 refine .go (fun _ _ h => h) ?_
 refine .seq ?_
 refine .seq ?_
 refine SC.draw mo [] [] .n (fun _ _ _ c hc => by cases hc) (fun wf_4 hl_4 hx_4 hR_4 => ?_)
 refine SR.tk 0 rfl (by kernel_rfl) rfl rfl rfl (ev_mv rfl rfl) ?_
 refine SR.tk 1 rfl (by kernel_rfl) rfl rfl rfl (ev_fa rfl fo90_5 rfl (r := 5) rfl) ?_
 refine SR.tk 2 rfl (by kernel_rfl) rfl rfl rfl (ev_ld1 rfl ty56 rfl (At.d (At.lent hR_4 0 rfl rfl))) ?_
 refine SR.tk 3 rfl (by kernel_rfl) rfl rfl rfl (ev_len rfl Try.underlying56 rfl) ?_
 refine SR.tk 4 rfl (by kernel_rfl) rfl rfl rfl (ev_cmp rfl rfl rfl rfl) ?_
 refine SR.tk 5 rfl (by kernel_rfl) rfl rfl rfl (ev_mv rfl rfl) ?_
 refine SR.gtake 6 rfl (by kernel_rfl) (by kernel_rfl) (by kernel_rfl) rfl (fun _ _ _ _ h => h) rfl rfl rfl rfl rfl (fun _ => ev_fa rfl fo90_5 rfl (r := 5) rfl) ?_
 refine SR.gtake 7 rfl (by kernel_rfl) (by kernel_rfl) (by kernel_rfl) rfl (fun _ _ _ _ h => h) rfl rfl rfl rfl rfl (fun hb => ev_ld1 rfl ty56 (lkg rfl hb) (At.d (At.lent hR_4 0 rfl rfl))) ?_
 refine SR.gtake 8 rfl (by kernel_rfl) (by kernel_rfl) (by kernel_rfl) rfl (fun _ _ _ _ h => h) rfl rfl rfl rfl rfl (fun _ => ev_mv rfl rfl) ?_
 refine SR.gtake 9 rfl (by kernel_rfl) (by kernel_rfl) (by kernel_rfl) rfl (fun _ _ _ _ h => h) rfl rfl rfl rfl rfl (fun hb => have hp := bF bD hb; ev_ix rfl Try.underlying56 ty3 (lkg rfl hb) (lkg rfl hb) (by have _h := hp; omega) (by have _h := hp; omega) (fun _ _ => Fr.adr (i := k) (((hN).ext hx_4) _ (gt_mem (i := i) (by have _h := hp; omega) (by have _h := hp; omega))).2 (by have _h := hp; omega) (by have _h := hp; omega))) ?_
 refine SR.gtake 10 rfl (by kernel_rfl) (by kernel_rfl) (by kernel_rfl) rfl (fun _ _ _ _ h => h) rfl rfl rfl rfl rfl (fun hb => have hp := bF bD hb; ev_ld1 rfl ty3 (lkg rfl hb) (At.elem1 (At.d (Fr.el (i := k) (((hN).ext hx_4) _ (gt_mem (i := i) (by have _h := hp; omega) (by have _h := hp; omega))).2 (by have _h := hp; omega) (by have _h := hp; omega))) 0 rfl)) ?_
 refine SR.gtake 11 rfl (by kernel_rfl) (by kernel_rfl) (by kernel_rfl) rfl (fun _ _ _ _ h => h) rfl rfl rfl rfl rfl (fun hb => ev_cmp rfl (lkg rfl hb) rfl rfl) ?_
 refine SR.tk 12 rfl (by kernel_rfl) rfl rfl rfl (ev_or rfl rfl rfl rfl) ?_
 refine SR.tk 13 rfl (by kernel_rfl) rfl rfl rfl (ev_mv rfl rfl) ?_
 refine SR.gtake 14 rfl (by kernel_rfl) (by kernel_rfl) (by kernel_rfl) rfl (fun _ _ _ _ h => h) rfl rfl rfl rfl rfl (fun _ => ev_fa rfl fo90_5 rfl (r := 5) rfl) ?_
 refine SR.gtake 15 rfl (by kernel_rfl) (by kernel_rfl) (by kernel_rfl) rfl (fun _ _ _ _ h => h) rfl rfl rfl rfl rfl (fun hb => ev_ld1 rfl ty56 (lkg rfl hb) (At.d (At.lent hR_4 0 rfl rfl))) ?_
 refine SR.gtake 16 rfl (by kernel_rfl) (by kernel_rfl) (by kernel_rfl) rfl (fun _ _ _ _ h => h) rfl rfl rfl rfl rfl (fun _ => ev_mv rfl rfl) ?_
 refine SR.gtake 17 rfl (by kernel_rfl) (by kernel_rfl) (by kernel_rfl) rfl (fun _ _ _ _ h => h) rfl rfl rfl rfl rfl (fun hb => have hp := bF (bO bD bD) hb; ev_ix rfl Try.underlying56 ty3 (lkg rfl hb) (lkg rfl hb) (by have _h := hp; omega) (by have _h := hp; omega) (fun _ _ => Fr.adr (i := k) (((hN).ext hx_4) _ (gt_mem (i := i) (by have _h := hp; omega) (by have _h := hp; omega))).2 (by have _h := hp; omega) (by have _h := hp; omega))) ?_
 refine SR.gtake 18 rfl (by kernel_rfl) (by kernel_rfl) (by kernel_rfl) rfl (fun _ _ _ _ h => h) rfl rfl rfl rfl rfl (fun hb => have hp := bF (bO bD bD) hb; ev_ld1 rfl ty3 (lkg rfl hb) (At.elem1 (At.d (Fr.el (i := k) (((hN).ext hx_4) _ (gt_mem (i := i) (by have _h := hp; omega) (by have _h := hp; omega))).2 (by have _h := hp; omega) (by have _h := hp; omega))) 0 rfl)) ?_
 refine SR.gtake 19 rfl (by kernel_rfl) (by kernel_rfl) (by kernel_rfl) rfl (fun _ _ _ _ h => h) rfl rfl rfl rfl rfl (fun _ => ev_fa rfl fo112_1 rfl (r := 1) rfl) ?_
 refine SR.gtake 20 rfl (by kernel_rfl) (by kernel_rfl) (by kernel_rfl) rfl (fun _ _ _ _ h => h) rfl rfl rfl rfl rfl (fun hb => ev_ld1 rfl ty3 (lkg rfl hb) (At.d (At.lent hR_4 2 rfl rfl))) ?_
 refine SR.gtake 21 rfl (by kernel_rfl) (by kernel_rfl) (by kernel_rfl) rfl (fun _ _ _ _ h => h) rfl rfl rfl rfl rfl (fun hb => ev_cmp rfl (lkg rfl hb) (lkg rfl hb) rfl) ?_
 refine SR.tk 22 rfl (by kernel_rfl) rfl rfl rfl (ev_or rfl rfl rfl rfl) ?_
 refine SR.fin (by kernel_rfl) hl_4 hx_4 hR_4 .n ?_
 refine SQ.go (fun _ _ h => h) ?_
 refine .condI rfl (bO (bO bD bD) bD) (fun h5 => ?_) (fun h5 => ?_)
 ·
  exfalso; simp_all; omega
 ·
  refine .skipgo (fun _ _ h => h) ?_
  refine .seq ?_
  refine SC.draw mo [cel b2 [.slice none 0 0, .int .i64 0] 112] [] (.c (.t .h) .n) (fun _ _ _ c hc => by cases hc) (fun wf_6 hl_6 hx_6 hR_6 => ?_)
  refine SR.tk 0 rfl (by kernel_rfl) rfl rfl rfl (ev_fa rfl fo112_0 rfl (r := 0) rfl) ?_
  refine SR.tk 1 rfl (by kernel_rfl) rfl rfl rfl (ev_ld1 rfl ty34 rfl (At.d (At.lent hR_6 1 rfl rfl))) ?_
  refine SR.tk 2 rfl (by kernel_rfl) rfl rfl rfl (ev_fa rfl fo90_5 rfl (r := 5) rfl) ?_
  refine SR.tk 3 rfl (by kernel_rfl) rfl rfl rfl (ev_ld1 rfl ty56 rfl (At.d (At.lent hR_6 0 rfl rfl))) ?_
  refine SR.tk 4 rfl (by kernel_rfl) rfl rfl rfl (ev_mv rfl rfl) ?_
  refine SR.tk 5 rfl (by kernel_rfl) rfl rfl rfl (ev_ix rfl Try.underlying56 ty3 rfl rfl (by omega) (by omega) (fun _ _ => Fr.adr (i := k) (((hN).ext hx_6) _ (gt_mem (i := i) (by omega) (by omega))).2 (by omega) (by omega))) ?_
  refine SR.tk 6 rfl (by kernel_rfl) rfl rfl rfl (ev_ld1 rfl ty3 rfl (At.elem1 (At.d (Fr.el (i := k) (((hN).ext hx_6) _ (gt_mem (i := i) (by omega) (by omega))).2 (by omega) (by omega))) 0 rfl)) ?_
  refine SR.tk 7 rfl (by kernel_rfl) rfl rfl rfl (ev_any (v := .agg #[.slice A n c, .int .i64 (gt ((gt l i).v.ks) k)]) rfl (by kernel_rfl) (fun _ => by kernel_rfl)) ?_
  refine SR.one (j := 8) (by kernel_rfl) rfl (st_storea (l' := [.slice A n c, .int .i64 (gt ((gt l i).v.ks) k)]) rfl rfl rfl ty112 rfl rfl rfl .h rfl rfl ⟨tt0, ?_⟩)
  refine SR.fin (by kernel_rfl) hl_6 hx_6 hR_6 (.c .n) ?_
  refine SQ.go (fun _ _ h => h) ?_
  exact .ret (fun _ _ h => h) (retv1 Try.results60 (.c 0 rfl rfl ty112) .n ⟨rfl, rfl⟩)
theorem eqS (A : Option Addr) (n : Nat) (c : Nat) (a : List ByteArray) (B : Option Addr) (n2 : Nat) (c2 : Nat) (b : List ByteArray) (S : Nat → Prop) (wf : World) (hA : Fr eS S wf A a) (hB : Fr eS S wf B b) (hn : a.length = n) (hn2 : b.length = n2) :
  TR0 Try.prog 42 [.slice A n c, .slice B n2 c2] [] S wf (fun v_ C_ => v_ = .bool (decide (a = b)) ∧ C_ = []) := by
 have hla := hA.len
 have hlb := hB.len
 refine TR.mk Try.func42 rfl Try.ntmps42 rfl rfl (fun w_ => ?_)
 refine .seq ?_
 refine .region ?_
 refine .ev (ev_as rfl rfl) rfl rfl rfl ?_
 refine .go (fun _ _ h => h) ?_
 refine .seq ?_
 refine .seq ?_
 refine .region ?_
 refine .ev (ev_mv rfl rfl) rfl rfl rfl ?_
 refine .ev (ev_len rfl Try.underlying82 rfl) rfl rfl rfl ?_
 refine .ev (ev_mv rfl rfl) rfl rfl rfl ?_
 refine .ev (ev_len rfl Try.underlying82 rfl) rfl rfl rfl ?_
 refine .ev (ev_cmp rfl rfl rfl rfl) rfl rfl rfl ?_
 refine .go (fun _ _ h => h) ?_
 refine .condI rfl bNE (fun h1 => ?_) (fun h1 => ?_)
 ·
  refine .seq ?_
  refine .region ?_
  refine .ev (ev_as rfl rfl) rfl rfl rfl ?_
  refine .go (fun _ _ h => h) ?_
  exact .ret (fun _ _ h => h) (ret1 Try.results42 rfl .n ⟨(congrArg Value.bool (decide_eq_false (by first | (intro h_; simp_all; done) | exact take_ne (i := i) (by omega) (by omega) (by simp_all))).symm), rfl⟩)
 ·
  refine .skipgo (fun _ _ h => h) ?_
  refine .seq ?_
  refine .seq ?_
  refine .region ?_
  refine .ev (ev_mv rfl rfl) rfl rfl rfl ?_
  refine .ev (ev_len rfl Try.underlying82 rfl) rfl rfl rfl ?_
  refine .ev (ev_mv rfl rfl) rfl rfl rfl ?_
  refine .go (fun _ _ h => h) ?_
  refine .block ?_
  refine .loop (X := Int) (fun i => 0 ≤ i ∧ i ≤ a.length ∧ a.take i.toNat = b.take i.toNat) (fun i => [(0, .slice A n c), (1, .slice B n2 c2), (11, .slice A n c), (12, .int .i64 (n : Int)), (13, .int .i64 i)]) (fun i => []) (fun _ => S) (fun _ => wf) (fun i => (a.length - i.toNat)) (fun a_ w_ hs_ hw_ => ⟨0, (by exact ⟨by omega, by omega, rfl⟩), hs_.mono (Sub.get (.c rfl (.c rfl (.c rfl (.c rfl (.c rfl .n)))))), hw_.keep .n⟩) (fun i ⟨q_0, q_1, q_2⟩ => ?_)
  show SC _ _ _ _ _ ⟨[(0, .slice A n c), (1, .slice B n2 c2), (11, .slice A n c), (12, .int .i64 (n : Int)), (13, .int .i64 i)], [], S, wf⟩
  refine .seq ?_
  refine .region ?_
  refine .ev (ev_cmp rfl rfl rfl rfl) rfl rfl rfl ?_
  refine .go (fun _ _ h => h) ?_
  refine .seq ?_
  refine .condI rfl bD (fun h2 => ?_) (fun h2 => ?_)
  ·
   refine .skipgo (fun _ _ h => h) ?_
   refine .seq ?_
   refine .block ?_
   refine .seq ?_
   refine .region ?_
   refine .ev (ev_mv rfl rfl) rfl rfl rfl ?_
   refine .ev (ev_as rfl rfl) rfl rfl rfl ?_
   refine .go (fun _ _ h => h) ?_
   refine .seq ?_
   refine SC.draw mo [] [] .n (fun _ _ _ c hc => by cases hc) (fun wf_3 hl_3 hx_3 hR_3 => ?_)
   refine SR.tk 0 rfl (by kernel_rfl) rfl rfl rfl (ev_mv rfl rfl) ?_
   refine SR.tk 1 rfl (by kernel_rfl) rfl rfl rfl (ev_mv rfl rfl) ?_
   refine SR.tk 2 rfl (by kernel_rfl) rfl rfl rfl (ev_ix rfl Try.underlying82 ty9 rfl rfl (by omega) (by omega) (fun _ _ => Fr.adr (i := i) (Fr.ext hA hx_3) (by omega) (by omega))) ?_
   refine SR.tk 3 rfl (by kernel_rfl) rfl rfl rfl (ev_ld1 rfl ty9 rfl (At.elem1 (At.d (Fr.el (i := i) (Fr.ext hA hx_3) (by omega) (by omega))) 0 rfl)) ?_
   refine SR.tk 4 rfl (by kernel_rfl) rfl rfl rfl (ev_mv rfl rfl) ?_
   refine SR.tk 5 rfl (by kernel_rfl) rfl rfl rfl (ev_mv rfl rfl) ?_
   refine SR.tk 6 rfl (by kernel_rfl) rfl rfl rfl (ev_ix rfl Try.underlying82 ty9 rfl rfl (by omega) (by omega) (fun _ _ => Fr.adr (i := i) (Fr.ext hB hx_3) (by omega) (by omega))) ?_
   refine SR.tk 7 rfl (by kernel_rfl) rfl rfl rfl (ev_ld1 rfl ty9 rfl (At.elem1 (At.d (Fr.el (i := i) (Fr.ext hB hx_3) (by omega) (by omega))) 0 rfl)) ?_
   refine SR.tk 8 rfl (by kernel_rfl) rfl rfl rfl (ev_scmp rfl rfl rfl rfl) ?_
   refine SR.fin (by kernel_rfl) hl_3 hx_3 hR_3 .n ?_
   refine SQ.go (fun _ _ h => h) ?_
   refine .condI rfl bV (fun h4 => ?_) (fun h4 => ?_)
   ·
    refine .seq ?_
    refine .region ?_
    refine .ev (ev_as rfl rfl) rfl rfl rfl ?_
    refine .go (fun _ _ h => h) ?_
    exact .ret (fun _ _ h => h) (ret1 Try.results42 rfl .n ⟨(congrArg Value.bool (decide_eq_false (by first | (intro h_; simp_all; done) | exact take_ne (i := i) (by omega) (by omega) (by simp_all))).symm), rfl⟩)
   ·
    refine .skipgo (fun _ _ h => h) ?_
    refine .region ?_
    refine .ev (ev_add rfl rfl rfl (r := (i + 1)) rfl (by omega) (by omega)) rfl rfl rfl ?_
    refine .ev (ev_mv rfl rfl) rfl rfl rfl ?_
    exact SP.nil (SQ.roundb (X := Int) (x := (i)) (i + 1) (by exact ⟨by omega, by omega, beq_take q_2 (by omega) (by omega) (by omega) (by first | (simp_all; done) | exact bl_inj (by simp_all))⟩) (by show (_ : Nat) < _; omega) (Sub.get (.c rfl (.c rfl (.c rfl (.c rfl (.c rfl .n)))))) (fun w hw => hw.keep .n))
  ·
   refine .exit (fun _ _ h => h) ?_
   refine .seq ?_
   refine .region ?_
   refine .ev (ev_as rfl rfl) rfl rfl rfl ?_
   refine .go (fun _ _ h => h) ?_
   exact .ret (fun _ _ h => h) (ret1 Try.results42 rfl .n ⟨(congrArg Value.bool (decide_eq_true (take_all q_2 (by omega) (by omega))).symm), rfl⟩)
theorem eqI (A : Option Addr) (n : Nat) (c : Nat) (a : List Int) (B : Option Addr) (n2 : Nat) (c2 : Nat) (b : List Int) (S : Nat → Prop) (wf : World) (hA : Fr eZ S wf A a) (hB : Fr eZ S wf B b) (hn : a.length = n) (hn2 : b.length = n2) :
  TR0 Try.prog 43 [.slice A n c, .slice B n2 c2] [] S wf (fun v_ C_ => v_ = .bool (decide (a = b)) ∧ C_ = []) := by
 have hla := hA.len
 have hlb := hB.len
 refine TR.mk Try.func43 rfl Try.ntmps43 rfl rfl (fun w_ => ?_)
 refine .seq ?_
 refine .region ?_
 refine .ev (ev_as rfl rfl) rfl rfl rfl ?_
 refine .go (fun _ _ h => h) ?_
 refine .seq ?_
 refine .seq ?_
 refine .region ?_
 refine .ev (ev_mv rfl rfl) rfl rfl rfl ?_
 refine .ev (ev_len rfl Try.underlying56 rfl) rfl rfl rfl ?_
 refine .ev (ev_mv rfl rfl) rfl rfl rfl ?_
 refine .ev (ev_len rfl Try.underlying56 rfl) rfl rfl rfl ?_
 refine .ev (ev_cmp rfl rfl rfl rfl) rfl rfl rfl ?_
 refine .go (fun _ _ h => h) ?_
 refine .condI rfl bNE (fun h1 => ?_) (fun h1 => ?_)
 ·
  refine .seq ?_
  refine .region ?_
  refine .ev (ev_as rfl rfl) rfl rfl rfl ?_
  refine .go (fun _ _ h => h) ?_
  exact .ret (fun _ _ h => h) (ret1 Try.results43 rfl .n ⟨(congrArg Value.bool (decide_eq_false (by first | (intro h_; simp_all; done) | exact take_ne (i := i) (by omega) (by omega) (by simp_all))).symm), rfl⟩)
 ·
  refine .skipgo (fun _ _ h => h) ?_
  refine .seq ?_
  refine .seq ?_
  refine .region ?_
  refine .ev (ev_mv rfl rfl) rfl rfl rfl ?_
  refine .ev (ev_len rfl Try.underlying56 rfl) rfl rfl rfl ?_
  refine .ev (ev_mv rfl rfl) rfl rfl rfl ?_
  refine .go (fun _ _ h => h) ?_
  refine .block ?_
  refine .loop (X := Int) (fun i => 0 ≤ i ∧ i ≤ a.length ∧ a.take i.toNat = b.take i.toNat) (fun i => [(0, .slice A n c), (1, .slice B n2 c2), (11, .slice A n c), (12, .int .i64 (n : Int)), (13, .int .i64 i)]) (fun i => []) (fun _ => S) (fun _ => wf) (fun i => (a.length - i.toNat)) (fun a_ w_ hs_ hw_ => ⟨0, (by exact ⟨by omega, by omega, rfl⟩), hs_.mono (Sub.get (.c rfl (.c rfl (.c rfl (.c rfl (.c rfl .n)))))), hw_.keep .n⟩) (fun i ⟨q_0, q_1, q_2⟩ => ?_)
  show SC _ _ _ _ _ ⟨[(0, .slice A n c), (1, .slice B n2 c2), (11, .slice A n c), (12, .int .i64 (n : Int)), (13, .int .i64 i)], [], S, wf⟩
  refine .seq ?_
  refine .region ?_
  refine .ev (ev_cmp rfl rfl rfl rfl) rfl rfl rfl ?_
  refine .go (fun _ _ h => h) ?_
  refine .seq ?_
  refine .condI rfl bD (fun h2 => ?_) (fun h2 => ?_)
  ·
   refine .skipgo (fun _ _ h => h) ?_
   refine .seq ?_
   refine .block ?_
   refine .seq ?_
   refine .region ?_
   refine .ev (ev_mv rfl rfl) rfl rfl rfl ?_
   refine .ev (ev_as rfl rfl) rfl rfl rfl ?_
   refine .go (fun _ _ h => h) ?_
   refine .seq ?_
   refine SC.draw mo [] [] .n (fun _ _ _ c hc => by cases hc) (fun wf_3 hl_3 hx_3 hR_3 => ?_)
   refine SR.tk 0 rfl (by kernel_rfl) rfl rfl rfl (ev_mv rfl rfl) ?_
   refine SR.tk 1 rfl (by kernel_rfl) rfl rfl rfl (ev_mv rfl rfl) ?_
   refine SR.tk 2 rfl (by kernel_rfl) rfl rfl rfl (ev_ix rfl Try.underlying56 ty3 rfl rfl (by omega) (by omega) (fun _ _ => Fr.adr (i := i) (Fr.ext hA hx_3) (by omega) (by omega))) ?_
   refine SR.tk 3 rfl (by kernel_rfl) rfl rfl rfl (ev_ld1 rfl ty3 rfl (At.elem1 (At.d (Fr.el (i := i) (Fr.ext hA hx_3) (by omega) (by omega))) 0 rfl)) ?_
   refine SR.tk 4 rfl (by kernel_rfl) rfl rfl rfl (ev_mv rfl rfl) ?_
   refine SR.tk 5 rfl (by kernel_rfl) rfl rfl rfl (ev_mv rfl rfl) ?_
   refine SR.tk 6 rfl (by kernel_rfl) rfl rfl rfl (ev_ix rfl Try.underlying56 ty3 rfl rfl (by omega) (by omega) (fun _ _ => Fr.adr (i := i) (Fr.ext hB hx_3) (by omega) (by omega))) ?_
   refine SR.tk 7 rfl (by kernel_rfl) rfl rfl rfl (ev_ld1 rfl ty3 rfl (At.elem1 (At.d (Fr.el (i := i) (Fr.ext hB hx_3) (by omega) (by omega))) 0 rfl)) ?_
   refine SR.tk 8 rfl (by kernel_rfl) rfl rfl rfl (ev_cmp rfl rfl rfl rfl) ?_
   refine SR.fin (by kernel_rfl) hl_3 hx_3 hR_3 .n ?_
   refine SQ.go (fun _ _ h => h) ?_
   refine .condI rfl bNE (fun h4 => ?_) (fun h4 => ?_)
   ·
    refine .seq ?_
    refine .region ?_
    refine .ev (ev_as rfl rfl) rfl rfl rfl ?_
    refine .go (fun _ _ h => h) ?_
    exact .ret (fun _ _ h => h) (ret1 Try.results43 rfl .n ⟨(congrArg Value.bool (decide_eq_false (by first | (intro h_; simp_all; done) | exact take_ne (i := i) (by omega) (by omega) (by simp_all))).symm), rfl⟩)
   ·
    refine .skipgo (fun _ _ h => h) ?_
    refine .region ?_
    refine .ev (ev_add rfl rfl rfl (r := (i + 1)) rfl (by omega) (by omega)) rfl rfl rfl ?_
    refine .ev (ev_mv rfl rfl) rfl rfl rfl ?_
    exact SP.nil (SQ.roundb (X := Int) (x := (i)) (i + 1) (by exact ⟨by omega, by omega, beq_take q_2 (by omega) (by omega) (by omega) (by first | (simp_all; done) | exact bl_inj (by simp_all))⟩) (by show (_ : Nat) < _; omega) (Sub.get (.c rfl (.c rfl (.c rfl (.c rfl (.c rfl .n)))))) (fun w hw => hw.keep .n))
  ·
   refine .exit (fun _ _ h => h) ?_
   refine .seq ?_
   refine .region ?_
   refine .ev (ev_as rfl rfl) rfl rfl rfl ?_
   refine .go (fun _ _ h => h) ?_
   exact .ret (fun _ _ h => h) (ret1 Try.results43 rfl .n ⟨(congrArg Value.bool (decide_eq_true (take_all q_2 (by omega) (by omega))).symm), rfl⟩)
theorem index_ (A : Option Addr) (n : Nat) (c : Nat) (a : List ByteArray) (s : ByteArray) (S : Nat → Prop) (wf : World) (hA : Fr eS S wf A a) (hn : a.length = n) :
  TR0 Try.prog 73 [.slice A n c, .string s] [] S wf (fun v_ C_ => ∃ (r : Int), ((r = -1 ∧ ∀ x ∈ a, x ≠ s) ∨ (0 ≤ r ∧ r < a.length ∧ gt a r = s ∧ ∀ x ∈ a.take r.toNat, x ≠ s)) ∧ v_ = .int .i64 r ∧ C_ = []) := by
 have hla := hA.len
 refine TR.mk Try.func73 rfl Try.ntmps73 rfl rfl (fun w_ => ?_)
 refine .seq ?_
 refine .region ?_
 refine .ev (ev_as rfl rfl) rfl rfl rfl ?_
 refine .go (fun _ _ h => h) ?_
 refine .seq ?_
 refine .seq ?_
 refine .region ?_
 refine .ev (ev_mv rfl rfl) rfl rfl rfl ?_
 refine .ev (ev_len rfl Try.underlying82 rfl) rfl rfl rfl ?_
 refine .ev (ev_mv rfl rfl) rfl rfl rfl ?_
 refine .go (fun _ _ h => h) ?_
 refine .block ?_
 refine .loop (X := Int) (fun i => 0 ≤ i ∧ i ≤ a.length ∧ ∀ x ∈ a.take i.toNat, x ≠ s) (fun i => [(0, .slice A n c), (1, .string s), (6, .slice A n c), (7, .int .i64 (n : Int)), (8, .int .i64 i)]) (fun i => []) (fun _ => S) (fun _ => wf) (fun i => (a.length - i.toNat)) (fun a_ w_ hs_ hw_ => ⟨0, (by exact ⟨by omega, by omega, by simp⟩), hs_.mono (Sub.get (.c rfl (.c rfl (.c rfl (.c rfl (.c rfl .n)))))), hw_.keep .n⟩) (fun i ⟨q_0, q_1, q_2⟩ => ?_)
 show SC _ _ _ _ _ ⟨[(0, .slice A n c), (1, .string s), (6, .slice A n c), (7, .int .i64 (n : Int)), (8, .int .i64 i)], [], S, wf⟩
 refine .seq ?_
 refine .region ?_
 refine .ev (ev_cmp rfl rfl rfl rfl) rfl rfl rfl ?_
 refine .go (fun _ _ h => h) ?_
 refine .seq ?_
 refine .condI rfl bD (fun h1 => ?_) (fun h1 => ?_)
 ·
  refine .skipgo (fun _ _ h => h) ?_
  refine .seq ?_
  refine .block ?_
  refine .seq ?_
  refine .region ?_
  refine .ev (ev_mv rfl rfl) rfl rfl rfl ?_
  refine .ev (ev_as rfl rfl) rfl rfl rfl ?_
  refine .go (fun _ _ h => h) ?_
  refine .seq ?_
  refine .region ?_
  refine .ev (ev_mv rfl rfl) rfl rfl rfl ?_
  refine .ev (ev_mv rfl rfl) rfl rfl rfl ?_
  refine .ev (ev_mv rfl rfl) rfl rfl rfl ?_
  refine .ev (ev_ix rfl Try.underlying82 ty9 rfl rfl (by omega) (by omega) (fun _ _ => Fr.adr (i := i) hA (by omega) (by omega))) rfl rfl rfl ?_
  refine .ev (ev_ld1 rfl ty9 rfl (At.elem1 (At.w (Fr.el (i := i) hA (by omega) (by omega))) 0 rfl)) rfl rfl rfl ?_
  refine .ev (ev_scmp rfl rfl rfl rfl) rfl rfl rfl ?_
  refine .go (fun _ _ h => h) ?_
  refine .condI rfl bV (fun h2 => ?_) (fun h2 => ?_)
  ·
   refine .seq ?_
   refine .region ?_
   refine .ev (ev_mv rfl rfl) rfl rfl rfl ?_
   refine .ev (ev_as rfl rfl) rfl rfl rfl ?_
   refine .go (fun _ _ h => h) ?_
   exact .ret (fun _ _ h => h) (ret1 Try.results73 rfl .n ⟨i, (Or.inr ⟨by omega, by omega, by first | (simp_all; done) | exact bl_inj (by simp_all), q_2⟩), rfl, rfl⟩)
  ·
   refine .skipgo (fun _ _ h => h) ?_
   refine .region ?_
   refine .ev (ev_add rfl rfl rfl (r := (i + 1)) rfl (by omega) (by omega)) rfl rfl rfl ?_
   refine .ev (ev_mv rfl rfl) rfl rfl rfl ?_
   exact SP.nil (SQ.roundb (X := Int) (x := (i)) (i + 1) (by exact ⟨by omega, by omega, none_step q_2 (by omega) (by omega) (by intro h_; simp_all)⟩) (by show (_ : Nat) < _; omega) (Sub.get (.c rfl (.c rfl (.c rfl (.c rfl (.c rfl .n)))))) (fun w hw => hw.keep .n))
 ·
  refine .exit (fun _ _ h => h) ?_
  refine .seq ?_
  refine .region ?_
  refine .ev (ev_as rfl rfl) rfl rfl rfl ?_
  refine .go (fun _ _ h => h) ?_
  exact .ret (fun _ _ h => h) (ret1 Try.results73 rfl .n ⟨(-1), (Or.inl ⟨rfl, by have h_ := q_2; rw [List.take_of_length_le (by omega)] at h_; exact h_⟩), rfl, rfl⟩)
theorem kids_ (A : Option Addr) (n : Nat) (c : Nat) (l : List TV) (i : Int) (S : Nat → Prop) (wf : World) (hP : Fr eTV S wf A l) (hN : NT S wf l) (hn : l.length = n) (hi : 0 ≤ i ∧ i < n) (hks : ∀ k : Int, 0 ≤ k → k < (gt l i).v.ks.length → kidOk l i k) (hkl : (gt l i).v.ks.length ≤ 100000) :
  TR0 Try.prog 63 [.agg #[.slice A n c, .int .i64 i]] [] S wf (fun v_ C_ => ∃ (u : Value), v_ = u ∧ C_ = [rw_ (ePt A n c) 112 (u) ((gt l i).v.ks)]) := by
 have hla := hP.len
 refine TR.mk Try.func63 rfl Try.ntmps63 rfl rfl (fun w_ => ?_)
 refine .seq ?_
 refine .region ?_
 refine .cons (st_boxa rfl rfl rfl rfl rfl (fun b1 => ?_))
 refine .ev (ev_as rfl rfl) rfl rfl rfl ?_
 refine .go (fun _ _ h => h) ?_
 refine .seq ?_
 refine .region ?_
 refine .ev (ev_as rfl rfl) rfl rfl rfl ?_
 refine .go (fun _ _ h => h) ?_
 refine .seq ?_
 refine .seq ?_
 refine SC.nilrow (ePt A n c) 112 ?_
 refine .region ?_
 refine .ev (ev_lda rfl rfl (At.whole 1 rfl) ty112) rfl rfl rfl ?_
 refine .cons (st_callk rfl rfl rfl rfl hbd61 rfl .n (value_ A n c l i _ _ hP (by first | ((try simp only [LL]) <;> omega) | omega | (simp <;> omega)) (by omega)) ?_)
 refine .ev (ev_any (v := .slice ((gt l i).kA) ((gt l i).v.ks.length) ((gt l i).kc)) rfl (by kernel_rfl) (fun _ => by kernel_rfl)) rfl rfl rfl ?_
 refine .ev (ev_len rfl Try.underlying56 rfl) rfl rfl rfl ?_
 refine .ev (ev_mv rfl rfl) rfl rfl rfl ?_
 refine .go (fun _ _ h => h) ?_
 refine .block ?_
 refine .loop (X := Int × Value × (List Int)) (fun ⟨j, W, X⟩ => 0 ≤ j ∧ j ≤ (gt l i).v.ks.length ∧ X = (gt l i).v.ks.take j.toNat ∧ (X.length : Int) = j) (fun ⟨j, W, X⟩ => [(1, .pointer (some ⟨b1, 0, none⟩)), (3, W), (8, .int .i64 (((gt l i).v.ks.length : Nat) : Int)), (9, .int .i64 j)]) (fun ⟨j, W, X⟩ => [cel b1 [.slice A n c, .int .i64 i] 112, rw_ (ePt A n c) 112 (W) X]) (fun _ => S) (fun _ => wf) (fun ⟨j, W, X⟩ => ((gt l i).v.ks.length - j.toNat)) (fun a_ w_ hs_ hw_ => ⟨⟨0, (.slice none 0 0), ([] : List Int)⟩, (by exact ⟨by omega, by omega, rfl, rfl⟩), hs_.mono (Sub.get (.c rfl (.c rfl (.c rfl (.c rfl .n))))), hw_.keep (.c (.t .h) (.c .h .n))⟩) (fun ⟨j, W, X⟩ ⟨q_0, q_1, q_2, q_3⟩ => ?_)
 show SC _ _ _ _ _ ⟨[(1, .pointer (some ⟨b1, 0, none⟩)), (3, W), (8, .int .i64 (((gt l i).v.ks.length : Nat) : Int)), (9, .int .i64 j)], [cel b1 [.slice A n c, .int .i64 i] 112, rw_ (ePt A n c) 112 (W) X], S, wf⟩
 refine .seq ?_
 refine .region ?_
 refine .ev (ev_cmp rfl rfl rfl rfl) rfl rfl rfl ?_
 refine .go (fun _ _ h => h) ?_
 refine .seq ?_
 refine .condI rfl bD (fun h2 => ?_) (fun h2 => ?_)
 ·
  refine .skipgo (fun _ _ h => h) ?_
  refine .seq ?_
  refine .block ?_
  refine .seq ?_
  refine .region ?_
  refine .ev (ev_mv rfl rfl) rfl rfl rfl ?_
  refine .ev (ev_as rfl rfl) rfl rfl rfl ?_
  refine .go (fun _ _ h => h) ?_
  refine .region ?_
  refine .ev (ev_mv rfl rfl) rfl rfl rfl ?_
  refine .ev (ev_lda rfl rfl (At.whole 0 rfl) ty112) rfl rfl rfl ?_
  refine .ev (ev_mv rfl rfl) rfl rfl rfl ?_
  refine .cons (st_callk rfl rfl rfl rfl hbd60 rfl .n (kid_ A n c l i j _ _ hP hN (by first | ((try simp only [LL]) <;> omega) | omega | (simp <;> omega)) (by omega) (hks j (by omega) (by omega))) ?_)
  refine .cons (st_lit (ePt A n c) (e := 112) (l := [(kidT l i j)]) rfl rfl rfl rfl (by kernel_rfl) rfl rfl (fun w => by kernel_rfl) (fun b3 => ?_))
  refine .cons (st_app (E := (ePt A n c)) (m := [(kidT l i j)]) rfl rfl rfl rfl Try.underlying115 ai112 rfl rfl rfl (.t (.t .h)) (by first | rfl | omega | simp) (row_src 0 rfl) (by first | ((try simp only [LL]) <;> omega) | omega | (simp <;> omega)) rfl (fun v4 => ?_))
  refine .ev (ev_as rfl rfl) rfl rfl rfl ?_
  refine .go (fun _ _ h => h) ?_
  refine .region ?_
  refine .ev (ev_add rfl rfl rfl (r := (j + 1)) rfl (by omega) (by omega)) rfl rfl rfl ?_
  refine .ev (ev_mv rfl rfl) rfl rfl rfl ?_
  exact SP.nil (SQ.roundb (X := Int × Value × (List Int)) (x := (j, W, X)) ⟨(j + 1), v4, (X ++ [(kidT l i j)])⟩ (by exact ⟨by omega, by omega, by rw [q_2, take_gt (by omega) (by omega)]; rfl, by rw [List.length_append]; simp; omega⟩) (by dsimp only; omega) (Sub.get (.c rfl (.c rfl (.c rfl (.c rfl .n))))) (fun w hw => hw.keep (.c (.t (.t .h)) (.c .h .n))))
 ·
  refine .exit (fun _ _ h => h) ?_
  refine .seq ?_
  have hX : X = (gt l i).v.ks := by rw [q_2]; exact List.take_of_length_le (by omega)
  subst hX
  refine .region ?_
  refine .ev (ev_mv rfl rfl) rfl rfl rfl ?_
  refine .ev (ev_as rfl rfl) rfl rfl rfl ?_
  refine .go (fun _ _ h => h) ?_
  exact .ret (fun _ _ h => h) (ret1 Try.results63 rfl (.c (.t .h) .n) ⟨W, rfl, rfl⟩)
end Go.Proofs.Ythmkelkefmfmgaa.Sx
set_option maxRecDepth 20000
set_option maxHeartbeats 4000000
set_option linter.unusedVariables false
set_option linter.unusedSimpArgs false
namespace Go.Proofs.Ythmkelkefmfmgaa.Sx.FE
open Go Go.SX Go.Proofs
theorem fo90_0 : fo Try.prog 90 0 = some 0 := by kernel_rfl
theorem ty88 : ty Try.prog 88 = some (false, 1) := by kernel_rfl
theorem fo90_1 : fo Try.prog 90 1 = some 1 := by kernel_rfl
theorem ty4 : ty Try.prog 4 = some (false, 1) := by kernel_rfl
theorem fo90_2 : fo Try.prog 90 2 = some 2 := by kernel_rfl
theorem ty3 : ty Try.prog 3 = some (false, 1) := by kernel_rfl
theorem fo90_3 : fo Try.prog 90 3 = some 3 := by kernel_rfl
theorem ty9 : ty Try.prog 9 = some (false, 1) := by kernel_rfl
theorem fo90_4 : fo Try.prog 90 4 = some 4 := by kernel_rfl
theorem ty82 : ty Try.prog 82 = some (false, 1) := by kernel_rfl
theorem hbd42 : hasBody Try.prog 42 = true := by kernel_rfl
theorem fo90_5 : fo Try.prog 90 5 = some 5 := by kernel_rfl
theorem ty56 : ty Try.prog 56 = some (false, 1) := by kernel_rfl
theorem hbd43 : hasBody Try.prog 43 = true := by kernel_rfl
theorem ty90 : ty Try.prog 90 = some (true, 6) := by kernel_rfl
theorem zf90 : (Try.prog.info? 90).bind (fun i => i.zero.map Value.cells) = some (List.toArray [.int .i64 0, .bool false, .int .i64 0, .string ⟨#[]⟩, .slice none 0 0, .slice none 0 0]) := by kernel_rfl
theorem hbd41 : hasBody Try.prog 41 = true := by kernel_rfl
end Go.Proofs.Ythmkelkefmfmgaa.Sx.FE
namespace Go.Proofs.Ythmkelkefmfmgaa.Sx
open Go Go.SX Go.Proofs FE
theorem eqV (k1 : Int) (b1 : Bool) (m1 : Int) (s1 : ByteArray) (nA1 : Option Addr) (nc1 : Nat) (ns1 : List ByteArray) (kA1 : Option Addr) (kc1 : Nat) (ks1 : List Int) (k2 : Int) (b2 : Bool) (m2 : Int) (s2 : ByteArray) (nA2 : Option Addr) (nc2 : Nat) (ns2 : List ByteArray) (kA2 : Option Addr) (kc2 : Nat) (ks2 : List Int) (S : Nat → Prop) (wf : World) (hn1 : Fr eS S wf nA1 ns1) (hk1 : Fr eZ S wf kA1 ks1) (hn2 : Fr eS S wf nA2 ns2) (hk2 : Fr eZ S wf kA2 ks2) :
  TR0 Try.prog 41 [.agg #[.int .i64 k1, .bool b1, .int .i64 m1, .string s1, .slice nA1 ns1.length nc1, .slice kA1 ks1.length kc1], .agg #[.int .i64 k2, .bool b2, .int .i64 m2, .string s2, .slice nA2 ns2.length nc2, .slice kA2 ks2.length kc2]] [] S wf (fun v_ C_ => v_ = .bool (decide ((TN.mk k1 b1 m1 s1 ns1 ks1) = (TN.mk k2 b2 m2 s2 ns2 ks2))) ∧ C_ = []) := by
 refine TR.mk Try.func41 rfl Try.ntmps41 rfl rfl (fun w_ => ?_)
 refine .seq ?_
 refine .region ?_
 refine .cons (st_boxa rfl rfl rfl rfl rfl (fun b1 => ?_))
 refine .cons (st_boxa rfl rfl rfl rfl rfl (fun b2 => ?_))
 refine .ev (ev_as rfl rfl) rfl rfl rfl ?_
 refine .go (fun _ _ h => h) ?_
 refine .seq ?_
 refine .region ?_
 refine .ev (ev_fa rfl fo90_0 rfl (r := 0) rfl) rfl rfl rfl ?_
 refine .ev (ev_ld1 rfl ty88 rfl (At.own1 1 rfl rfl)) rfl rfl rfl ?_
 refine .ev (ev_fa rfl fo90_0 rfl (r := 0) rfl) rfl rfl rfl ?_
 refine .ev (ev_ld1 rfl ty88 rfl (At.own1 0 rfl rfl)) rfl rfl rfl ?_
 refine .ev (ev_cmp rfl rfl rfl rfl) rfl rfl rfl ?_
 refine .ev (ev_mv rfl rfl) rfl rfl rfl ?_
 refine .cons (Ev.gstep (fun _ => ev_fa rfl fo90_1 rfl (r := 1) rfl) rfl rfl rfl rfl rfl ?_)
 refine .cons (Ev.gstep (fun hb => ev_ld1 rfl ty4 (lkg rfl hb) (At.own1 1 rfl rfl)) rfl rfl rfl rfl rfl ?_)
 refine .cons (Ev.gstep (fun _ => ev_fa rfl fo90_1 rfl (r := 1) rfl) rfl rfl rfl rfl rfl ?_)
 refine .cons (Ev.gstep (fun hb => ev_ld1 rfl ty4 (lkg rfl hb) (At.own1 0 rfl rfl)) rfl rfl rfl rfl rfl ?_)
 refine .cons (Ev.gstep (fun hb => ev_bcmp rfl Try.underlying4 (lkg rfl hb) (lkg rfl hb) rfl) rfl rfl rfl rfl rfl ?_)
 refine .ev (ev_and rfl rfl rfl rfl) rfl rfl rfl ?_
 refine .ev (ev_mv rfl rfl) rfl rfl rfl ?_
 refine .cons (Ev.gstep (fun _ => ev_fa rfl fo90_2 rfl (r := 2) rfl) rfl rfl rfl rfl rfl ?_)
 refine .cons (Ev.gstep (fun hb => ev_ld1 rfl ty3 (lkg rfl hb) (At.own1 1 rfl rfl)) rfl rfl rfl rfl rfl ?_)
 refine .cons (Ev.gstep (fun _ => ev_fa rfl fo90_2 rfl (r := 2) rfl) rfl rfl rfl rfl rfl ?_)
 refine .cons (Ev.gstep (fun hb => ev_ld1 rfl ty3 (lkg rfl hb) (At.own1 0 rfl rfl)) rfl rfl rfl rfl rfl ?_)
 refine .cons (Ev.gstep (fun hb => ev_cmp rfl (lkg rfl hb) (lkg rfl hb) rfl) rfl rfl rfl rfl rfl ?_)
 refine .ev (ev_and rfl rfl rfl rfl) rfl rfl rfl ?_
 refine .ev (ev_mv rfl rfl) rfl rfl rfl ?_
 refine .cons (Ev.gstep (fun _ => ev_fa rfl fo90_3 rfl (r := 3) rfl) rfl rfl rfl rfl rfl ?_)
 refine .cons (Ev.gstep (fun hb => ev_ld1 rfl ty9 (lkg rfl hb) (At.own1 1 rfl rfl)) rfl rfl rfl rfl rfl ?_)
 refine .cons (Ev.gstep (fun _ => ev_fa rfl fo90_3 rfl (r := 3) rfl) rfl rfl rfl rfl rfl ?_)
 refine .cons (Ev.gstep (fun hb => ev_ld1 rfl ty9 (lkg rfl hb) (At.own1 0 rfl rfl)) rfl rfl rfl rfl rfl ?_)
 refine .cons (Ev.gstep (fun hb => ev_scmp rfl (lkg rfl hb) (lkg rfl hb) rfl) rfl rfl rfl rfl rfl ?_)
 refine .ev (ev_and rfl rfl rfl rfl) rfl rfl rfl ?_
 refine .ev (ev_mv rfl rfl) rfl rfl rfl ?_
 refine .cons (Ev.gstep (fun _ => ev_fa rfl fo90_4 rfl (r := 4) rfl) rfl rfl rfl rfl rfl ?_)
 refine .cons (Ev.gstep (fun hb => ev_ld1 rfl ty82 (lkg rfl hb) (At.own1 1 rfl rfl)) rfl rfl rfl rfl rfl ?_)
 refine .cons (Ev.gstep (fun _ => ev_fa rfl fo90_4 rfl (r := 4) rfl) rfl rfl rfl rfl rfl ?_)
 refine .cons (Ev.gstep (fun hb => ev_ld1 rfl ty82 (lkg rfl hb) (At.own1 0 rfl rfl)) rfl rfl rfl rfl rfl ?_)
 refine .cons (st_gcallk rfl rfl rfl rfl rfl rfl hbd42 (fun hb => (lkA1 (lkg rfl hb) (lkA1 (lkg rfl hb) lkA0))) .n (fun hb => have hp := bT (bA (bA (bA bE bV) bE) bV) hb; eqS nA1 ns1.length nc1 ns1 nA2 ns2.length nc2 ns2 _ _ hn1 hn2 (by first | ((try simp only [LL]) <;> omega) | omega | (simp <;> omega)) (by first | ((try simp only [LL]) <;> omega) | omega | (simp <;> omega))) ?_)
 refine .ev (ev_and rfl rfl rfl rfl) rfl rfl rfl ?_
 refine .ev (ev_mv rfl rfl) rfl rfl rfl ?_
 refine .cons (Ev.gstep (fun _ => ev_fa rfl fo90_5 rfl (r := 5) rfl) rfl rfl rfl rfl rfl ?_)
 refine .cons (Ev.gstep (fun hb => ev_ld1 rfl ty56 (lkg rfl hb) (At.own1 1 rfl rfl)) rfl rfl rfl rfl rfl ?_)
 refine .cons (Ev.gstep (fun _ => ev_fa rfl fo90_5 rfl (r := 5) rfl) rfl rfl rfl rfl rfl ?_)
 refine .cons (Ev.gstep (fun hb => ev_ld1 rfl ty56 (lkg rfl hb) (At.own1 0 rfl rfl)) rfl rfl rfl rfl rfl ?_)
 refine .cons (st_gcallk rfl rfl rfl rfl rfl rfl hbd43 (fun hb => (lkA1 (lkg rfl hb) (lkA1 (lkg rfl hb) lkA0))) .n (fun hb => have hp := bT (bA (bA (bA (bA bE bV) bE) bV) bD) hb; eqI kA1 ks1.length kc1 ks1 kA2 ks2.length kc2 ks2 _ _ hk1 hk2 (by first | ((try simp only [LL]) <;> omega) | omega | (simp <;> omega)) (by first | ((try simp only [LL]) <;> omega) | omega | (simp <;> omega))) ?_)
 refine .ev (ev_and rfl rfl rfl rfl) rfl rfl rfl ?_
 refine .ev (ev_as rfl rfl) rfl rfl rfl ?_
 refine .go (fun _ _ h => h) ?_
 exact .ret (fun _ _ h => h) (ret1 Try.results41 rfl .n ⟨(congrArg Value.bool tn_dec), rfl⟩)
theorem eqF (A : Option Addr) (n : Nat) (c : Nat) (a : List TV) (B : Option Addr) (n2 : Nat) (c2 : Nat) (b : List TV) (S : Nat → Prop) (wf : World) (hA : Fr eTV S wf A a) (hB : Fr eTV S wf B b) (hNa : NT S wf a) (hNb : NT S wf b) (hn : a.length = n) (hn2 : b.length = n2) :
  TR0 Try.prog 40 [.slice A n c, .slice B n2 c2, .func (.func 41) #[] #[]] [] S wf (fun v_ C_ => v_ = .bool (decide (vs a = vs b)) ∧ C_ = []) := by
 have hla := hA.len
 have hlb := hB.len
 refine TR.mk Try.func40 rfl Try.ntmps40 rfl rfl (fun w_ => ?_)
 refine .seq ?_
 refine .region ?_
 refine .ev (ev_as rfl rfl) rfl rfl rfl ?_
 refine .go (fun _ _ h => h) ?_
 refine .seq ?_
 refine .seq ?_
 refine .region ?_
 refine .ev (ev_mv rfl rfl) rfl rfl rfl ?_
 refine .ev (ev_len rfl Try.underlying34 rfl) rfl rfl rfl ?_
 refine .ev (ev_mv rfl rfl) rfl rfl rfl ?_
 refine .ev (ev_len rfl Try.underlying34 rfl) rfl rfl rfl ?_
 refine .ev (ev_cmp rfl rfl rfl rfl) rfl rfl rfl ?_
 refine .go (fun _ _ h => h) ?_
 refine .condI rfl bNE (fun h1 => ?_) (fun h1 => ?_)
 ·
  refine .seq ?_
  refine .region ?_
  refine .ev (ev_as rfl rfl) rfl rfl rfl ?_
  refine .go (fun _ _ h => h) ?_
  exact .ret (fun _ _ h => h) (ret1 Try.results40 rfl .n ⟨(congrArg Value.bool (decide_eq_false (by first | (intro h_; have h2_ := congrArg List.length h_; rw [vs_len, vs_len] at h2_; omega) | exact vs_ne (i := i) (by intro h_; simp_all))).symm), rfl⟩)
 ·
  refine .skipgo (fun _ _ h => h) ?_
  refine .seq ?_
  refine .seq ?_
  refine .region ?_
  refine .ev (ev_mv rfl rfl) rfl rfl rfl ?_
  refine .ev (ev_len rfl Try.underlying34 rfl) rfl rfl rfl ?_
  refine .ev (ev_mv rfl rfl) rfl rfl rfl ?_
  refine .go (fun _ _ h => h) ?_
  refine .block ?_
  refine .loop (X := Int) (fun i => 0 ≤ i ∧ i ≤ a.length ∧ (vs a).take i.toNat = (vs b).take i.toNat) (fun i => [(0, .slice A n c), (1, .slice B n2 c2), (2, .func (.func 41) #[] #[]), (15, .slice A n c), (16, .int .i64 (n : Int)), (17, .int .i64 i)]) (fun i => []) (fun _ => S) (fun _ => wf) (fun i => (a.length - i.toNat)) (fun a_ w_ hs_ hw_ => ⟨0, (by exact ⟨by omega, by omega, rfl⟩), hs_.mono (Sub.get (.c rfl (.c rfl (.c rfl (.c rfl (.c rfl (.c rfl .n))))))), hw_.keep .n⟩) (fun i ⟨q_0, q_1, q_2⟩ => ?_)
  show SC _ _ _ _ _ ⟨[(0, .slice A n c), (1, .slice B n2 c2), (2, .func (.func 41) #[] #[]), (15, .slice A n c), (16, .int .i64 (n : Int)), (17, .int .i64 i)], [], S, wf⟩
  refine .seq ?_
  refine .region ?_
  refine .ev (ev_cmp rfl rfl rfl rfl) rfl rfl rfl ?_
  refine .go (fun _ _ h => h) ?_
  refine .seq ?_
  refine .condI rfl bD (fun h2 => ?_) (fun h2 => ?_)
  ·
   refine .skipgo (fun _ _ h => h) ?_
   refine .seq ?_
   refine .block ?_
   refine .seq ?_
   refine .region ?_
   refine .ev (ev_mv rfl rfl) rfl rfl rfl ?_
   refine .ev (ev_ix rfl Try.underlying34 ty90 rfl rfl (by omega) (by omega) (fun _ _ => Fr.adr (i := i) hA (by omega) (by omega))) rfl rfl rfl ?_
   refine .ev (ev_lda rfl rfl (At.w (Fr.el (i := i) hA (by omega) (by omega))) ty90) rfl rfl rfl ?_
   refine .cons (st_alloc rfl rfl rfl rfl zf90 (fun b3 => ?_))
   refine .ev (ev_as rfl rfl) rfl rfl rfl ?_
   refine .cons (st_storea (l' := [.int .i64 ((gt a i).v.kind), .bool ((gt a i).v.truth), .int .i64 ((gt a i).v.num), .string ((gt a i).v.text), .slice ((gt a i).nA) ((gt a i).v.ns.length) ((gt a i).nc), .slice ((gt a i).kA) ((gt a i).v.ks.length) ((gt a i).kc)]) rfl rfl rfl ty90 rfl rfl rfl .h rfl rfl ?_)
   refine .go (fun _ _ h => h) ?_
   refine .seq ?_
   refine .region ?_
   refine .ev (ev_mv rfl rfl) rfl rfl rfl ?_
   refine .ev (ev_mv rfl rfl) rfl rfl rfl ?_
   refine .ev (ev_ix rfl Try.underlying34 ty90 rfl rfl (by omega) (by omega) (fun _ _ => Fr.adr (i := i) hB (by omega) (by omega))) rfl rfl rfl ?_
   refine .ev (ev_lda rfl rfl (At.w (Fr.el (i := i) hB (by omega) (by omega))) ty90) rfl rfl rfl ?_
   refine .cons (st_alloc rfl rfl rfl rfl zf90 (fun b4 => ?_))
   refine .cons (st_storea (l' := [.int .i64 ((gt b i).v.kind), .bool ((gt b i).v.truth), .int .i64 ((gt b i).v.num), .string ((gt b i).v.text), .slice ((gt b i).nA) ((gt b i).v.ns.length) ((gt b i).nc), .slice ((gt b i).kA) ((gt b i).v.ks.length) ((gt b i).kc)]) rfl rfl rfl ty90 rfl rfl rfl .h rfl rfl ?_)
   refine .go (fun _ _ h => h) ?_
   refine .seq ?_
   refine .region ?_
   refine .ev (ev_mv rfl rfl) rfl rfl rfl ?_
   refine .ev (ev_lda rfl rfl (At.whole 1 rfl) ty90) rfl rfl rfl ?_
   refine .ev (ev_lda rfl rfl (At.whole 0 rfl) ty90) rfl rfl rfl ?_
   refine .cons (.viafun rfl rfl (st_callk rfl rfl rfl rfl hbd41 rfl .n (eqV ((gt a i).v.kind) ((gt a i).v.truth) ((gt a i).v.num) ((gt a i).v.text) ((gt a i).nA) ((gt a i).nc) ((gt a i).v.ns) ((gt a i).kA) ((gt a i).kc) ((gt a i).v.ks) ((gt b i).v.kind) ((gt b i).v.truth) ((gt b i).v.num) ((gt b i).v.text) ((gt b i).nA) ((gt b i).nc) ((gt b i).v.ns) ((gt b i).kA) ((gt b i).kc) ((gt b i).v.ks) _ _ ((hNa _ (gt_mem (i := i) (by omega) (by omega))).1) ((hNa _ (gt_mem (i := i) (by omega) (by omega))).2) ((hNb _ (gt_mem (i := i) (by omega) (by omega))).1) ((hNb _ (gt_mem (i := i) (by omega) (by omega))).2)) ?_))
   refine .ev (ev_not rfl rfl) rfl rfl rfl ?_
   refine .go (fun _ _ h => h) ?_
   refine .condI rfl (bN bD) (fun h5 => ?_) (fun h5 => ?_)
   ·
    refine .seq ?_
    refine .region ?_
    refine .ev (ev_as rfl rfl) rfl rfl rfl ?_
    refine .go (fun _ _ h => h) ?_
    exact .ret (fun _ _ h => h) (ret1 Try.results40 rfl .n ⟨(congrArg Value.bool (decide_eq_false (by first | (intro h_; have h2_ := congrArg List.length h_; rw [vs_len, vs_len] at h2_; omega) | exact vs_ne (i := i) (by intro h_; simp_all))).symm), rfl⟩)
   ·
    refine .skipgo (fun _ _ h => h) ?_
    refine .region ?_
    refine .ev (ev_add rfl rfl rfl (r := (i + 1)) rfl (by omega) (by omega)) rfl rfl rfl ?_
    refine .ev (ev_mv rfl rfl) rfl rfl rfl ?_
    exact SP.nil (SQ.roundb (X := Int) (x := (i)) (i + 1) (by exact ⟨by omega, by omega, vs_eq_step q_2 (by omega) (by omega) (by omega) (tn_ext (by simp_all))⟩) (by show (_ : Nat) < _; omega) (Sub.get (.c rfl (.c rfl (.c rfl (.c rfl (.c rfl (.c rfl .n))))))) (fun w hw => hw.keep .n))
  ·
   refine .exit (fun _ _ h => h) ?_
   refine .seq ?_
   refine .region ?_
   refine .ev (ev_as rfl rfl) rfl rfl rfl ?_
   refine .go (fun _ _ h => h) ?_
   exact .ret (fun _ _ h => h) (ret1 Try.results40 rfl .n ⟨(congrArg Value.bool (decide_eq_true (take_all (i := i) q_2 (by rw [vs_len]; omega) (by rw [vs_len, vs_len]; omega))).symm), rfl⟩)
end Go.Proofs.Ythmkelkefmfmgaa.Sx
set_option maxRecDepth 20000
set_option maxHeartbeats 4000000
set_option linter.unusedVariables false
set_option linter.unusedSimpArgs false
namespace Go.Proofs.Ythmkelkefmfmgaa.Sx.FZ
open Go Go.SX Go.Proofs
theorem fo30_0 : fo Try.prog 30 0 = some 0 := by kernel_rfl
theorem fo24_0 : fo Try.prog 24 0 = some 0 := by kernel_rfl
theorem ty22 : ty Try.prog 22 = some (false, 1) := by kernel_rfl
theorem hbd22 : hasBody Try.prog 22 = true := by kernel_rfl
theorem hbd23 : hasBody Try.prog 23 = true := by kernel_rfl
theorem fo24_1 : fo Try.prog 24 1 = some 1 := by kernel_rfl
theorem ty3 : ty Try.prog 3 = some (false, 1) := by kernel_rfl
theorem fo24_2 : fo Try.prog 24 2 = some 2 := by kernel_rfl
theorem ty9 : ty Try.prog 9 = some (false, 1) := by kernel_rfl
theorem hbd21 : hasBody Try.prog 21 = true := by kernel_rfl
theorem mo : Try.prog.follows .mixedOrders = true := by kernel_rfl
theorem fo65_0 : fo Try.prog 65 0 = some 0 := by kernel_rfl
theorem ty34 : ty Try.prog 34 = some (false, 1) := by kernel_rfl
theorem zf30 : (Try.prog.info? 30).bind (fun i => i.zero.map Value.cells) = some (List.toArray [.int .i64 0, .int .i64 0, .string ⟨#[]⟩, .bool false, .int .i64 0, .int .i64 0, .int .i64 0, .int .i64 0, .int .i64 0, .int .i64 0, .int .i64 0, .int .i64 0, .slice none 0 0, .slice none 0 0]) := by kernel_rfl
theorem zf112 : (Try.prog.info? 112).bind (fun i => i.zero.map Value.cells) = some (List.toArray [.slice none 0 0, .int .i64 0]) := by kernel_rfl
theorem ty112 : ty Try.prog 112 = some (true, 2) := by kernel_rfl
theorem hbd60 : hasBody Try.prog 60 = true := by kernel_rfl
theorem hbd61 : hasBody Try.prog 61 = true := by kernel_rfl
theorem hbd62 : hasBody Try.prog 62 = true := by kernel_rfl
theorem ty30 : ty Try.prog 30 = some (true, 14) := by kernel_rfl
end Go.Proofs.Ythmkelkefmfmgaa.Sx.FZ
namespace Go.Proofs.Ythmkelkefmfmgaa.Sx
open Go Go.SX Go.Proofs FZ
theorem tree_g (cd : Int) (at_ : Int) (path : ByteArray) (op : Bool) (x0 : Int) (x1 : Int) (x2 : Int) (x3 : Int) (x4 : Int) (x5 : Int) (x6 : Int) (x7 : Int) (pA : Option Addr) (pc : Nat) (ps : List PV) (kA : Option Addr) (kc : Nat) (lf : List TK) (S : Nat → Prop) (wf : World) (hc : cd ≠ 0) :
  TR0 Try.prog 11 [.agg #[.int .i64 cd, .int .i64 at_, .string path, .bool op, .int .i64 x0, .int .i64 x1, .int .i64 x2, .int .i64 x3, .int .i64 x4, .int .i64 x5, .int .i64 x6, .int .i64 x7, .slice pA ps.length pc, .slice kA lf.length kc]] [] S wf (fun v_ C_ => ∃ (u : Value) (L : List TV), (vs L = faultT cd at_ path) ∧ v_ = u ∧ C_ = [rw_ eTV 90 (u) L, nest 9 3 L]) := by
 refine TR.mk Try.func11 rfl Try.ntmps11 rfl rfl (fun w_ => ?_)
 refine .seq ?_
 refine .region ?_
 refine .cons (st_boxa rfl rfl rfl rfl rfl (fun b1 => ?_))
 refine .ev (ev_as rfl rfl) rfl rfl rfl ?_
 refine .go (fun _ _ h => h) ?_
 refine .seq ?_
 refine .region ?_
 refine .ev (ev_any (v := .agg #[.slice none 0 0]) rfl (by kernel_rfl) (fun _ => by kernel_rfl)) rfl rfl rfl ?_
 refine .cons (st_boxa rfl rfl rfl rfl rfl (fun b2 => ?_))
 refine .ev (ev_as rfl rfl) rfl rfl rfl ?_
 refine .go (fun _ _ h => h) ?_
 refine .seq ?_
 refine .seq ?_
 refine SC.nilrow eTV 90 ?_
 refine .region ?_
 refine .ev (ev_fa rfl fo30_0 rfl (r := 0) rfl) rfl rfl rfl ?_
 refine .ev (ev_fa rfl fo24_0 rfl (r := 0) rfl) rfl rfl rfl ?_
 refine .ev (ev_ld1 rfl ty22 rfl (At.own1 2 rfl rfl)) rfl rfl rfl ?_
 refine .ev (ev_cmp rfl rfl rfl rfl) rfl rfl rfl ?_
 refine .go (fun _ _ h => h) ?_
 refine .condI rfl bNE (fun h3 => ?_) (fun h3 => ?_)
 ·
  refine .seq ?_
  refine SC.draw mo [rw_ eTV 90 (.slice none 0 0) ([] : List TV), cel b2 [.slice none 0 0] 65] [] (.c .h (.c .h .n)) (fun _ _ _ c hc => by cases hc) (fun wf_4 hl_4 hx_4 hR_4 => ?_)
  refine SR.tk 0 rfl (by kernel_rfl) rfl rfl rfl (ev_mv rfl rfl) ?_
  refine SR.tk 1 rfl (by kernel_rfl) rfl rfl rfl (ev_mv rfl rfl) ?_
  refine SR.tk 4 rfl (by kernel_rfl) rfl rfl rfl (ev_mv rfl rfl) ?_
  refine SR.tk 5 rfl (by kernel_rfl) rfl rfl rfl (ev_fa rfl fo30_0 rfl (r := 0) rfl) ?_
  refine SR.tk 6 rfl (by kernel_rfl) rfl rfl rfl (ev_fa rfl fo24_0 rfl (r := 0) rfl) ?_
  refine SR.tk 7 rfl (by kernel_rfl) rfl rfl rfl (ev_ld1 rfl ty22 rfl (At.d (At.lent hR_4 0 rfl rfl))) ?_
  refine SR.tk 10 rfl (by kernel_rfl) rfl rfl rfl (ev_mv rfl rfl) ?_
  refine SR.tk 11 rfl (by kernel_rfl) rfl rfl rfl (ev_fa rfl fo30_0 rfl (r := 0) rfl) ?_
  refine SR.tk 12 rfl (by kernel_rfl) rfl rfl rfl (ev_fa rfl fo24_1 rfl (r := 1) rfl) ?_
  refine SR.tk 13 rfl (by kernel_rfl) rfl rfl rfl (ev_ld1 rfl ty3 rfl (At.d (At.lent hR_4 0 rfl rfl))) ?_
  refine SR.tk 16 rfl (by kernel_rfl) rfl rfl rfl (ev_mv rfl rfl) ?_
  refine SR.tk 17 rfl (by kernel_rfl) rfl rfl rfl (ev_fa rfl fo30_0 rfl (r := 0) rfl) ?_
  refine SR.tk 18 rfl (by kernel_rfl) rfl rfl rfl (ev_fa rfl fo24_2 rfl (r := 2) rfl) ?_
  refine SR.tk 19 rfl (by kernel_rfl) rfl rfl rfl (ev_ld1 rfl ty9 rfl (At.d (At.lent hR_4 0 rfl rfl))) ?_
  refine SR.one (j := 2) (by kernel_rfl) rfl (st_call0 rfl rfl rfl rfl hbd22 rfl (.c (.t .h) (.c .h .n)) (mtext b2 (.slice none 0 0) ([] : List TV) ⟨#[101, 114, 114, 111, 114]⟩ _ _ (by first | ((try simp only [LL]) <;> omega) | omega | (simp <;> omega))) (fun v_q6 C_q6 q6 => ⟨tt0, ?_⟩))
  obtain ⟨u5, rfl, rfl⟩ := q6
  show SR _ _ _ _ _ _ _ _ _ ⟨_, _ :: _ :: _, _, _⟩
  refine SR.tk 3 rfl (by kernel_rfl) rfl rfl rfl (ev_any (v := .agg #[.string ⟨#[115, 116, 97, 116, 117, 115]⟩, .int .i64 (([] : List TV).length : Int)]) rfl (by kernel_rfl) (fun _ => by kernel_rfl)) ?_
  refine SR.one (j := 8) (by kernel_rfl) rfl (st_call0 rfl rfl rfl rfl hbd23 rfl (.c .h (.c .h .n)) (mnum b2 u5 (([] : List TV) ++ [TV.mk (TN.mk 4 false 0 ⟨#[101, 114, 114, 111, 114]⟩ [] []) none 0 none 0]) cd _ _ (by first | ((try simp only [LL]) <;> omega) | omega | (simp <;> omega))) (fun v_q8 C_q8 q8 => ⟨tt0, ?_⟩))
  obtain ⟨u7, rfl, rfl⟩ := q8
  show SR _ _ _ _ _ _ _ _ _ ⟨_, _ :: _ :: _, _, _⟩
  refine SR.tk 9 rfl (by kernel_rfl) rfl rfl rfl (ev_any (v := .agg #[.string ⟨#[99, 111, 100, 101]⟩, .int .i64 ((([] : List TV) ++ [TV.mk (TN.mk 4 false 0 ⟨#[101, 114, 114, 111, 114]⟩ [] []) none 0 none 0]).length : Int)]) rfl (by kernel_rfl) (fun _ => by kernel_rfl)) ?_
  refine SR.one (j := 14) (by kernel_rfl) rfl (st_call0 rfl rfl rfl rfl hbd23 rfl (.c .h (.c .h .n)) (mnum b2 u7 ((([] : List TV) ++ [TV.mk (TN.mk 4 false 0 ⟨#[101, 114, 114, 111, 114]⟩ [] []) none 0 none 0]) ++ [TV.mk (TN.mk 3 false cd ⟨#[]⟩ [] []) none 0 none 0]) at_ _ _ (by first | ((try simp only [LL]) <;> omega) | omega | (simp <;> omega))) (fun v_q10 C_q10 q10 => ⟨tt0, ?_⟩))
  obtain ⟨u9, rfl, rfl⟩ := q10
  show SR _ _ _ _ _ _ _ _ _ ⟨_, _ :: _ :: _, _, _⟩
  refine SR.tk 15 rfl (by kernel_rfl) rfl rfl rfl (ev_any (v := .agg #[.string ⟨#[97, 116]⟩, .int .i64 (((([] : List TV) ++ [TV.mk (TN.mk 4 false 0 ⟨#[101, 114, 114, 111, 114]⟩ [] []) none 0 none 0]) ++ [TV.mk (TN.mk 3 false cd ⟨#[]⟩ [] []) none 0 none 0]).length : Int)]) rfl (by kernel_rfl) (fun _ => by kernel_rfl)) ?_
  refine SR.one (j := 20) (by kernel_rfl) rfl (st_call0 rfl rfl rfl rfl hbd22 rfl (.c .h (.c .h .n)) (mtext b2 u9 (((([] : List TV) ++ [TV.mk (TN.mk 4 false 0 ⟨#[101, 114, 114, 111, 114]⟩ [] []) none 0 none 0]) ++ [TV.mk (TN.mk 3 false cd ⟨#[]⟩ [] []) none 0 none 0]) ++ [TV.mk (TN.mk 3 false at_ ⟨#[]⟩ [] []) none 0 none 0]) path _ _ (by first | ((try simp only [LL]) <;> omega) | omega | (simp <;> omega))) (fun v_q12 C_q12 q12 => ⟨tt0, ?_⟩))
  obtain ⟨u11, rfl, rfl⟩ := q12
  show SR _ _ _ _ _ _ _ _ _ ⟨_, _ :: _ :: _, _, _⟩
  refine SR.tk 21 rfl (by kernel_rfl) rfl rfl rfl (ev_any (v := .agg #[.string ⟨#[112, 97, 116, 104]⟩, .int .i64 ((((([] : List TV) ++ [TV.mk (TN.mk 4 false 0 ⟨#[101, 114, 114, 111, 114]⟩ [] []) none 0 none 0]) ++ [TV.mk (TN.mk 3 false cd ⟨#[]⟩ [] []) none 0 none 0]) ++ [TV.mk (TN.mk 3 false at_ ⟨#[]⟩ [] []) none 0 none 0]).length : Int)]) rfl (by kernel_rfl) (fun _ => by kernel_rfl)) ?_
  refine SR.one (j := 22) (by kernel_rfl) rfl (st_lit ePr (e := 69) (l := [(Pr.mk ⟨#[115, 116, 97, 116, 117, 115]⟩ (([] : List TV).length : Int)), (Pr.mk ⟨#[99, 111, 100, 101]⟩ ((([] : List TV) ++ [TV.mk (TN.mk 4 false 0 ⟨#[101, 114, 114, 111, 114]⟩ [] []) none 0 none 0]).length : Int)), (Pr.mk ⟨#[97, 116]⟩ (((([] : List TV) ++ [TV.mk (TN.mk 4 false 0 ⟨#[101, 114, 114, 111, 114]⟩ [] []) none 0 none 0]) ++ [TV.mk (TN.mk 3 false cd ⟨#[]⟩ [] []) none 0 none 0]).length : Int)), (Pr.mk ⟨#[112, 97, 116, 104]⟩ ((((([] : List TV) ++ [TV.mk (TN.mk 4 false 0 ⟨#[101, 114, 114, 111, 114]⟩ [] []) none 0 none 0]) ++ [TV.mk (TN.mk 3 false cd ⟨#[]⟩ [] []) none 0 none 0]) ++ [TV.mk (TN.mk 3 false at_ ⟨#[]⟩ [] []) none 0 none 0]).length : Int))]) rfl rfl rfl rfl (by kernel_rfl) rfl rfl (fun w => by kernel_rfl) (fun b13 => ⟨tt0, ?_⟩))
  refine SR.one (j := 23) (by kernel_rfl) rfl (st_lend0 rfl rfl rfl rfl hbd21 rfl (.c (.t .h) (.c (.t .h) .n)) (.c .h .n) (fun w_ hw => mobject b2 u11 ((((([] : List TV) ++ [TV.mk (TN.mk 4 false 0 ⟨#[101, 114, 114, 111, 114]⟩ [] []) none 0 none 0]) ++ [TV.mk (TN.mk 3 false cd ⟨#[]⟩ [] []) none 0 none 0]) ++ [TV.mk (TN.mk 3 false at_ ⟨#[]⟩ [] []) none 0 none 0]) ++ [TV.mk (TN.mk 4 false 0 path [] []) none 0 none 0]) (some ⟨b13, 0, none⟩) 4 4 [(Pr.mk ⟨#[115, 116, 97, 116, 117, 115]⟩ (([] : List TV).length : Int)), (Pr.mk ⟨#[99, 111, 100, 101]⟩ ((([] : List TV) ++ [TV.mk (TN.mk 4 false 0 ⟨#[101, 114, 114, 111, 114]⟩ [] []) none 0 none 0]).length : Int)), (Pr.mk ⟨#[97, 116]⟩ (((([] : List TV) ++ [TV.mk (TN.mk 4 false 0 ⟨#[101, 114, 114, 111, 114]⟩ [] []) none 0 none 0]) ++ [TV.mk (TN.mk 3 false cd ⟨#[]⟩ [] []) none 0 none 0]).length : Int)), (Pr.mk ⟨#[112, 97, 116, 104]⟩ ((((([] : List TV) ++ [TV.mk (TN.mk 4 false 0 ⟨#[101, 114, 114, 111, 114]⟩ [] []) none 0 none 0]) ++ [TV.mk (TN.mk 3 false cd ⟨#[]⟩ [] []) none 0 none 0]) ++ [TV.mk (TN.mk 3 false at_ ⟨#[]⟩ [] []) none 0 none 0]).length : Int))] _ _ (Fr.lend hw 0 rfl (by first | ((try simp only [LL]) <;> omega) | omega | (simp <;> omega))) (by first | ((try simp only [LL]) <;> omega) | omega | (simp <;> omega)) (by first | ((try simp only [LL]) <;> omega) | omega | (simp <;> omega)) (by first | ((try simp only [LL]) <;> omega) | omega | (simp <;> omega))) (fun v_q19 C_q19 q19 => ⟨tt0, ?_⟩))
  obtain ⟨u14, nA15, nc16, kA17, kc18, rfl, rfl⟩ := q19
  show SR _ _ _ _ _ _ _ _ _ ⟨_, _ :: _ :: _ :: _ :: _ :: _, _, _⟩
  refine SR.fin (by kernel_rfl) hl_4 hx_4 hR_4 (.c (.c (.c (.c (.c .n))))) ?_
  refine SQ.go (fun _ _ h => h) ?_
  refine .seq ?_
  refine .region ?_
  refine .ev (ev_mv rfl rfl) rfl rfl rfl ?_
  refine .ev (ev_nil rfl rfl) rfl rfl rfl ?_
  refine .ev (ev_fa rfl fo65_0 rfl (r := 0) rfl) rfl rfl rfl ?_
  refine .ev (ev_ld1 rfl ty34 rfl (At.own1 0 rfl rfl)) rfl rfl rfl ?_
  refine .ev (ev_as rfl rfl) rfl rfl rfl ?_
  refine .go (fun _ _ h => h) ?_
  refine SC.nest0 9 3 ?_
  refine SC.packl (TN.mk 4 false 0 ⟨#[101, 114, 114, 111, 114]⟩ [] []) .h rfl rfl ?_
  refine SC.packl (TN.mk 3 false cd ⟨#[]⟩ [] []) .h rfl rfl ?_
  refine SC.packl (TN.mk 3 false at_ ⟨#[]⟩ [] []) .h rfl rfl ?_
  refine SC.packl (TN.mk 4 false 0 path [] []) .h rfl rfl ?_
  refine SC.pack (TV.mk (TN.mk 6 false 0 ⟨#[]⟩ ([(Pr.mk ⟨#[115, 116, 97, 116, 117, 115]⟩ (([] : List TV).length : Int)), (Pr.mk ⟨#[99, 111, 100, 101]⟩ ((([] : List TV) ++ [TV.mk (TN.mk 4 false 0 ⟨#[101, 114, 114, 111, 114]⟩ [] []) none 0 none 0]).length : Int)), (Pr.mk ⟨#[97, 116]⟩ (((([] : List TV) ++ [TV.mk (TN.mk 4 false 0 ⟨#[101, 114, 114, 111, 114]⟩ [] []) none 0 none 0]) ++ [TV.mk (TN.mk 3 false cd ⟨#[]⟩ [] []) none 0 none 0]).length : Int)), (Pr.mk ⟨#[112, 97, 116, 104]⟩ ((((([] : List TV) ++ [TV.mk (TN.mk 4 false 0 ⟨#[101, 114, 114, 111, 114]⟩ [] []) none 0 none 0]) ++ [TV.mk (TN.mk 3 false cd ⟨#[]⟩ [] []) none 0 none 0]) ++ [TV.mk (TN.mk 3 false at_ ⟨#[]⟩ [] []) none 0 none 0]).length : Int))].map Pr.name) ([(Pr.mk ⟨#[115, 116, 97, 116, 117, 115]⟩ (([] : List TV).length : Int)), (Pr.mk ⟨#[99, 111, 100, 101]⟩ ((([] : List TV) ++ [TV.mk (TN.mk 4 false 0 ⟨#[101, 114, 114, 111, 114]⟩ [] []) none 0 none 0]).length : Int)), (Pr.mk ⟨#[97, 116]⟩ (((([] : List TV) ++ [TV.mk (TN.mk 4 false 0 ⟨#[101, 114, 114, 111, 114]⟩ [] []) none 0 none 0]) ++ [TV.mk (TN.mk 3 false cd ⟨#[]⟩ [] []) none 0 none 0]).length : Int)), (Pr.mk ⟨#[112, 97, 116, 104]⟩ ((((([] : List TV) ++ [TV.mk (TN.mk 4 false 0 ⟨#[101, 114, 114, 111, 114]⟩ [] []) none 0 none 0]) ++ [TV.mk (TN.mk 3 false cd ⟨#[]⟩ [] []) none 0 none 0]) ++ [TV.mk (TN.mk 3 false at_ ⟨#[]⟩ [] []) none 0 none 0]).length : Int))].map Pr.pos)) nA15 nc16 kA17 kc18) (.c .h (.c (.t (.t .h)) (.c (.t (.t .h)) .n))) (by simp) (by simp) ?_
  exact .ret (fun _ _ h => h) (ret1 Try.results11 rfl (.c (.t (.t .h)) (.c .h .n)) ⟨u14, (((((([] : List TV) ++ [TV.mk (TN.mk 4 false 0 ⟨#[101, 114, 114, 111, 114]⟩ [] []) none 0 none 0]) ++ [TV.mk (TN.mk 3 false cd ⟨#[]⟩ [] []) none 0 none 0]) ++ [TV.mk (TN.mk 3 false at_ ⟨#[]⟩ [] []) none 0 none 0]) ++ [TV.mk (TN.mk 4 false 0 path [] []) none 0 none 0]) ++ [TV.mk (TN.mk 6 false 0 ⟨#[]⟩ ([(Pr.mk ⟨#[115, 116, 97, 116, 117, 115]⟩ (([] : List TV).length : Int)), (Pr.mk ⟨#[99, 111, 100, 101]⟩ ((([] : List TV) ++ [TV.mk (TN.mk 4 false 0 ⟨#[101, 114, 114, 111, 114]⟩ [] []) none 0 none 0]).length : Int)), (Pr.mk ⟨#[97, 116]⟩ (((([] : List TV) ++ [TV.mk (TN.mk 4 false 0 ⟨#[101, 114, 114, 111, 114]⟩ [] []) none 0 none 0]) ++ [TV.mk (TN.mk 3 false cd ⟨#[]⟩ [] []) none 0 none 0]).length : Int)), (Pr.mk ⟨#[112, 97, 116, 104]⟩ ((((([] : List TV) ++ [TV.mk (TN.mk 4 false 0 ⟨#[101, 114, 114, 111, 114]⟩ [] []) none 0 none 0]) ++ [TV.mk (TN.mk 3 false cd ⟨#[]⟩ [] []) none 0 none 0]) ++ [TV.mk (TN.mk 3 false at_ ⟨#[]⟩ [] []) none 0 none 0]).length : Int))].map Pr.name) ([(Pr.mk ⟨#[115, 116, 97, 116, 117, 115]⟩ (([] : List TV).length : Int)), (Pr.mk ⟨#[99, 111, 100, 101]⟩ ((([] : List TV) ++ [TV.mk (TN.mk 4 false 0 ⟨#[101, 114, 114, 111, 114]⟩ [] []) none 0 none 0]).length : Int)), (Pr.mk ⟨#[97, 116]⟩ (((([] : List TV) ++ [TV.mk (TN.mk 4 false 0 ⟨#[101, 114, 114, 111, 114]⟩ [] []) none 0 none 0]) ++ [TV.mk (TN.mk 3 false cd ⟨#[]⟩ [] []) none 0 none 0]).length : Int)), (Pr.mk ⟨#[112, 97, 116, 104]⟩ ((((([] : List TV) ++ [TV.mk (TN.mk 4 false 0 ⟨#[101, 114, 114, 111, 114]⟩ [] []) none 0 none 0]) ++ [TV.mk (TN.mk 3 false cd ⟨#[]⟩ [] []) none 0 none 0]) ++ [TV.mk (TN.mk 3 false at_ ⟨#[]⟩ [] []) none 0 none 0]).length : Int))].map Pr.pos)) nA15 nc16 kA17 kc18]), rfl, rfl, rfl⟩)
 ·
  exact absurd hc (by assumption)
end Go.Proofs.Ythmkelkefmfmgaa.Sx
set_option maxRecDepth 20000
set_option maxHeartbeats 4000000
set_option linter.unusedVariables false
set_option linter.unusedSimpArgs false
namespace Go.Proofs.Ythmkelkefmfmgaa.Sx.FPA
open Go Go.SX Go.Proofs
theorem fo86_2 : fo Try.prog 86 2 = some 2 := by kernel_rfl
theorem ty3 : ty Try.prog 3 = some (false, 1) := by kernel_rfl
theorem fo86_3 : fo Try.prog 86 3 = some 3 := by kernel_rfl
theorem fo86_1 : fo Try.prog 86 1 = some 1 := by kernel_rfl
theorem fo86_0 : fo Try.prog 86 0 = some 0 := by kernel_rfl
theorem ty36 : ty Try.prog 36 = some (false, 1) := by kernel_rfl
theorem ty5 : ty Try.prog 5 = some (false, 1) := by kernel_rfl
theorem mo : Try.prog.follows .mixedOrders = true := by kernel_rfl
theorem hbd38 : hasBody Try.prog 38 = true := by kernel_rfl
theorem hbd37 : hasBody Try.prog 37 = true := by kernel_rfl
theorem hbd68 : hasBody Try.prog 68 = true := by kernel_rfl
end Go.Proofs.Ythmkelkefmfmgaa.Sx.FPA
namespace Go.Proofs.Ythmkelkefmfmgaa.Sx
open Go Go.SX Go.Proofs FPA
theorem no_ (g : Nat) (A : Option Addr) (n : Nat) (c : Nat) (i : Int) (bad : Int) (pos : Int) (v : Value) (a : Int) (e : Int) (S : Nat → Prop) (wf : World) :
  TR0 Try.prog 38 [.pointer (some ⟨g, 0, none⟩), .int .i64 a, .int .i64 e] [cel g [.slice A n c, .int .i64 i, .int .i64 bad, .int .i64 pos, v] 86] S wf (fun v_ C_ => ∃ (bad2 : Int) (pos2 : Int), ((bad = 0 → bad2 = e ∧ pos2 = a) ∧ (bad ≠ 0 → bad2 = bad ∧ pos2 = pos)) ∧ v_ = .tuple #[] ∧ C_ = [cel g [.slice A n c, .int .i64 i, .int .i64 bad2, .int .i64 pos2, v] 86]) := by
 refine TR.mk Try.func38 rfl Try.ntmps38 rfl rfl (fun w_ => ?_)
 refine .seq ?_
 refine .region ?_
 refine .ev (ev_mv rfl rfl) rfl rfl rfl ?_
 refine .ev (ev_nil rfl rfl) rfl rfl rfl ?_
 refine .ev (ev_fa rfl fo86_2 rfl (r := 2) rfl) rfl rfl rfl ?_
 refine .ev (ev_ld1 rfl ty3 rfl (At.own1 0 rfl rfl)) rfl rfl rfl ?_
 refine .ev (ev_cmp rfl rfl rfl rfl) rfl rfl rfl ?_
 refine .go (fun _ _ h => h) ?_
 refine .condI rfl bE (fun h1 => ?_) (fun h1 => ?_)
 ·
  refine .seq ?_
  refine .region ?_
  refine .ev (ev_mv rfl rfl) rfl rfl rfl ?_
  refine .ev (ev_mv rfl rfl) rfl rfl rfl ?_
  refine .ev (ev_nil rfl rfl) rfl rfl rfl ?_
  refine .ev (ev_fa rfl fo86_2 rfl (r := 2) rfl) rfl rfl rfl ?_
  refine .cons (st_store1 rfl rfl rfl ty3 rfl rfl rfl .h (.t (.t .h)) ?_)
  refine .go (fun _ _ h => h) ?_
  refine .region ?_
  refine .ev (ev_mv rfl rfl) rfl rfl rfl ?_
  refine .ev (ev_mv rfl rfl) rfl rfl rfl ?_
  refine .ev (ev_nil rfl rfl) rfl rfl rfl ?_
  refine .ev (ev_fa rfl fo86_3 rfl (r := 3) rfl) rfl rfl rfl ?_
  refine .cons (st_store1 rfl rfl rfl ty3 rfl rfl rfl .h (.t (.t (.t .h))) ?_)
  exact SP.nil (end0 Try.results38 (.c .h .n) ⟨e, a, (by constructor <;> intro h_ <;> first | exact ⟨rfl, rfl⟩ | (exfalso; omega)), rfl, rfl⟩)
 ·
  exact .skipq (fun _ _ h => h) (end0 Try.results38 (.c .h .n) ⟨bad, pos, (by constructor <;> intro h_ <;> first | exact ⟨rfl, rfl⟩ | (exfalso; omega)), rfl, rfl⟩)
theorem gap_ (g : Nat) (A : Option Addr) (n : Nat) (c : Nat) (b : List Int) (i : Int) (bad : Int) (pos : Int) (v : Value) (S : Nat → Prop) (wf : World) (hA : Fr eY S wf A b) (hn : b.length = n) (hN : n ≤ 65536) (hr : ∀ x ∈ b, isB x) (hcap : n ≤ c) (hi : 0 ≤ i ∧ i ≤ 100000) :
  TR0 Try.prog 37 [.pointer (some ⟨g, 0, none⟩)] [cel g [.slice A n c, .int .i64 i, .int .i64 bad, .int .i64 pos, v] 86] S wf (fun v_ C_ => ∃ (i2 : Int), (i2 = (gapF b (LS.mk i bad pos)).i) ∧ ((i ≤ i2 ∧ (i ≤ n → i2 ≤ n) ∧ (n ≤ i → i2 = i))) ∧ v_ = .tuple #[] ∧ C_ = [cel g [.slice A n c, .int .i64 i2, .int .i64 bad, .int .i64 pos, v] 86]) := by
 have hla := hA.len
 refine TR.mk Try.func37 rfl Try.ntmps37 rfl rfl (fun w_ => ?_)
 refine .block ?_
 refine .loop (X := Int) (fun x => 0 ≤ x ∧ (i ≤ x ∧ (i ≤ n → x ≤ n) ∧ (n ≤ i → x = i)) ∧ x + gapN (b.drop x.toNat) = i + gapN (b.drop i.toNat)) (fun x => [(0, .pointer (some ⟨g, 0, none⟩))]) (fun x => [cel g [.slice A n c, .int .i64 x, .int .i64 bad, .int .i64 pos, v] 86]) (fun _ => S) (fun _ => wf) (fun x => (n + 100000 - x).toNat) (fun a_ w_ hs_ hw_ => ⟨i, (by exact ⟨by omega, by omega, rfl⟩), hs_.mono (Sub.get (.c rfl .n)), hw_.keep (.c .h .n)⟩) (fun x ⟨q_0, q_1, q_2⟩ => ?_)
 show SC _ _ _ _ _ ⟨[(0, .pointer (some ⟨g, 0, none⟩))], [cel g [.slice A n c, .int .i64 x, .int .i64 bad, .int .i64 pos, v] 86], S, wf⟩
 refine .seq ?_
 refine .seq ?_
 refine SC.draw mo [] [] .n (fun _ _ _ c hc => by cases hc) (fun wf_1 hl_1 hx_1 hR_1 => ?_)
 refine SR.tk 0 rfl (by kernel_rfl) rfl rfl rfl (ev_mv rfl rfl) ?_
 refine SR.tk 1 rfl (by kernel_rfl) rfl rfl rfl (ev_nil rfl rfl) ?_
 refine SR.tk 2 rfl (by kernel_rfl) rfl rfl rfl (ev_fa rfl fo86_1 rfl (r := 1) rfl) ?_
 refine SR.tk 3 rfl (by kernel_rfl) rfl rfl rfl (ev_ld1 rfl ty3 rfl (At.d (At.lent hR_1 0 rfl rfl))) ?_
 refine SR.tk 4 rfl (by kernel_rfl) rfl rfl rfl (ev_mv rfl rfl) ?_
 refine SR.tk 5 rfl (by kernel_rfl) rfl rfl rfl (ev_nil rfl rfl) ?_
 refine SR.tk 6 rfl (by kernel_rfl) rfl rfl rfl (ev_fa rfl fo86_0 rfl (r := 0) rfl) ?_
 refine SR.tk 7 rfl (by kernel_rfl) rfl rfl rfl (ev_ld1 rfl ty36 rfl (At.d (At.lent hR_1 0 rfl rfl))) ?_
 refine SR.tk 8 rfl (by kernel_rfl) rfl rfl rfl (ev_len rfl Try.underlying36 rfl) ?_
 refine SR.tk 9 rfl (by kernel_rfl) rfl rfl rfl (ev_cmp rfl rfl rfl rfl) ?_
 refine SR.tk 10 rfl (by kernel_rfl) rfl rfl rfl (ev_mv rfl rfl) ?_
 refine SR.gtake 11 rfl (by kernel_rfl) (by kernel_rfl) (by kernel_rfl) rfl (fun _ _ _ _ h => h) rfl rfl rfl rfl rfl (fun _ => ev_mv rfl rfl) ?_
 refine SR.gtake 12 rfl (by kernel_rfl) (by kernel_rfl) (by kernel_rfl) rfl (fun _ _ _ _ h => h) rfl rfl rfl rfl rfl (fun hb => ev_nil rfl (lkg rfl hb)) ?_
 refine SR.gtake 13 rfl (by kernel_rfl) (by kernel_rfl) (by kernel_rfl) rfl (fun _ _ _ _ h => h) rfl rfl rfl rfl rfl (fun hb => ev_fa rfl fo86_0 (lkg rfl hb) (r := 0) rfl) ?_
 refine SR.gtake 14 rfl (by kernel_rfl) (by kernel_rfl) (by kernel_rfl) rfl (fun _ _ _ _ h => h) rfl rfl rfl rfl rfl (fun hb => ev_ld1 rfl ty36 (lkg rfl hb) (At.d (At.lent hR_1 0 rfl rfl))) ?_
 refine SR.gtake 15 rfl (by kernel_rfl) (by kernel_rfl) (by kernel_rfl) rfl (fun _ _ _ _ h => h) rfl rfl rfl rfl rfl (fun _ => ev_mv rfl rfl) ?_
 refine SR.gtake 16 rfl (by kernel_rfl) (by kernel_rfl) (by kernel_rfl) rfl (fun _ _ _ _ h => h) rfl rfl rfl rfl rfl (fun hb => ev_nil rfl (lkg rfl hb)) ?_
 refine SR.gtake 17 rfl (by kernel_rfl) (by kernel_rfl) (by kernel_rfl) rfl (fun _ _ _ _ h => h) rfl rfl rfl rfl rfl (fun hb => ev_fa rfl fo86_1 (lkg rfl hb) (r := 1) rfl) ?_
 refine SR.gtake 18 rfl (by kernel_rfl) (by kernel_rfl) (by kernel_rfl) rfl (fun _ _ _ _ h => h) rfl rfl rfl rfl rfl (fun hb => ev_ld1 rfl ty3 (lkg rfl hb) (At.d (At.lent hR_1 0 rfl rfl))) ?_
 refine SR.gtake 19 rfl (by kernel_rfl) (by kernel_rfl) (by kernel_rfl) rfl (fun _ _ _ _ h => h) rfl rfl rfl rfl rfl (fun hb => have hp := bT bD hb; ev_ix rfl Try.underlying36 ty5 (lkg rfl hb) (lkg rfl hb) (by have _h := hp; omega) (by have _h := hp; omega) (fun _ _ => Fr.adr (i := x) (Fr.ext hA hx_1) (by have _h := hp; omega) (by have _h := hp; omega))) ?_
 refine SR.gtake 20 rfl (by kernel_rfl) (by kernel_rfl) (by kernel_rfl) rfl (fun _ _ _ _ h => h) rfl rfl rfl rfl rfl (fun hb => have hp := bT bD hb; ev_ld1 rfl ty5 (lkg rfl hb) (At.elem1 (At.d (Fr.el (i := x) (Fr.ext hA hx_1) (by have _h := hp; omega) (by have _h := hp; omega))) 0 rfl)) ?_
 refine SR.gtake 21 rfl (by kernel_rfl) (by kernel_rfl) (by kernel_rfl) rfl (fun _ _ _ _ h => h) rfl rfl rfl rfl rfl (fun hb => ev_cmp rfl (lkg rfl hb) rfl rfl) ?_
 refine SR.gtake 22 rfl (by kernel_rfl) (by kernel_rfl) (by kernel_rfl) rfl (fun _ _ _ _ h => h) rfl rfl rfl rfl rfl (fun hb => ev_mv rfl (lkg rfl hb)) ?_
 refine SR.ggtake (b1 := (decide (x < (n : Int)))) (b := ((gt b x) == 32)) 23 cb_tf rfl (by kernel_rfl) (by kernel_rfl) (by kernel_rfl) rfl (fun _ _ _ _ h => h) rfl rfl rfl rfl rfl (fun hb1 _ => ev_mv rfl rfl) ?_
 refine SR.ggtake (b1 := (decide (x < (n : Int)))) (b := ((gt b x) == 32)) 24 cb_tf rfl (by kernel_rfl) (by kernel_rfl) (by kernel_rfl) rfl (fun _ _ _ _ h => h) rfl rfl rfl rfl rfl (fun hb1 hb => ev_nil rfl (lkg rfl hb)) ?_
 refine SR.ggtake (b1 := (decide (x < (n : Int)))) (b := ((gt b x) == 32)) 25 cb_tf rfl (by kernel_rfl) (by kernel_rfl) (by kernel_rfl) rfl (fun _ _ _ _ h => h) rfl rfl rfl rfl rfl (fun hb1 hb => ev_fa rfl fo86_0 (lkg rfl hb) (r := 0) rfl) ?_
 refine SR.ggtake (b1 := (decide (x < (n : Int)))) (b := ((gt b x) == 32)) 26 cb_tf rfl (by kernel_rfl) (by kernel_rfl) (by kernel_rfl) rfl (fun _ _ _ _ h => h) rfl rfl rfl rfl rfl (fun hb1 hb => ev_ld1 rfl ty36 (lkg rfl hb) (At.d (At.lent hR_1 0 rfl rfl))) ?_
 refine SR.ggtake (b1 := (decide (x < (n : Int)))) (b := ((gt b x) == 32)) 27 cb_tf rfl (by kernel_rfl) (by kernel_rfl) (by kernel_rfl) rfl (fun _ _ _ _ h => h) rfl rfl rfl rfl rfl (fun hb1 _ => ev_mv rfl rfl) ?_
 refine SR.ggtake (b1 := (decide (x < (n : Int)))) (b := ((gt b x) == 32)) 28 cb_tf rfl (by kernel_rfl) (by kernel_rfl) (by kernel_rfl) rfl (fun _ _ _ _ h => h) rfl rfl rfl rfl rfl (fun hb1 hb => ev_nil rfl (lkg rfl hb)) ?_
 refine SR.ggtake (b1 := (decide (x < (n : Int)))) (b := ((gt b x) == 32)) 29 cb_tf rfl (by kernel_rfl) (by kernel_rfl) (by kernel_rfl) rfl (fun _ _ _ _ h => h) rfl rfl rfl rfl rfl (fun hb1 hb => ev_fa rfl fo86_1 (lkg rfl hb) (r := 1) rfl) ?_
 refine SR.ggtake (b1 := (decide (x < (n : Int)))) (b := ((gt b x) == 32)) 30 cb_tf rfl (by kernel_rfl) (by kernel_rfl) (by kernel_rfl) rfl (fun _ _ _ _ h => h) rfl rfl rfl rfl rfl (fun hb1 hb => ev_ld1 rfl ty3 (lkg rfl hb) (At.d (At.lent hR_1 0 rfl rfl))) ?_
 refine SR.ggtake (b1 := (decide (x < (n : Int)))) (b := ((gt b x) == 32)) 31 cb_tf rfl (by kernel_rfl) (by kernel_rfl) (by kernel_rfl) rfl (fun _ _ _ _ h => h) rfl rfl rfl rfl rfl (fun hb1 hb => have hp := bT (bA bD (bN bE)) hb; ev_ix rfl Try.underlying36 ty5 (lkg rfl hb) (lkg rfl hb) (by have _h := hp; omega) (by have _h := hp; omega) (fun _ _ => Fr.adr (i := x) (Fr.ext hA hx_1) (by have _h := hp; omega) (by have _h := hp; omega))) ?_
 refine SR.ggtake (b1 := (decide (x < (n : Int)))) (b := ((gt b x) == 32)) 32 cb_tf rfl (by kernel_rfl) (by kernel_rfl) (by kernel_rfl) rfl (fun _ _ _ _ h => h) rfl rfl rfl rfl rfl (fun hb1 hb => have hp := bT (bA bD (bN bE)) hb; ev_ld1 rfl ty5 (lkg rfl hb) (At.elem1 (At.d (Fr.el (i := x) (Fr.ext hA hx_1) (by have _h := hp; omega) (by have _h := hp; omega))) 0 rfl)) ?_
 refine SR.ggtake (b1 := (decide (x < (n : Int)))) (b := ((gt b x) == 32)) 33 cb_tf rfl (by kernel_rfl) (by kernel_rfl) (by kernel_rfl) rfl (fun _ _ _ _ h => h) rfl rfl rfl rfl rfl (fun hb1 hb => ev_cmp rfl (lkg rfl hb) rfl rfl) ?_
 refine SR.gtake 34 rfl (by kernel_rfl) (by kernel_rfl) (by kernel_rfl) rfl (fun _ _ _ _ h => h) rfl rfl rfl rfl rfl (fun hb => ev_or rfl (lkg rfl hb) rfl (lkgn rfl cb_tf hb)) ?_
 refine SR.gtake 35 rfl (by kernel_rfl) (by kernel_rfl) (by kernel_rfl) rfl (fun _ _ _ _ h => h) rfl rfl rfl rfl rfl (fun hb => ev_mv rfl (lkg rfl hb)) ?_
 refine SR.ggtake (b1 := (decide (x < (n : Int)))) (b := (((gt b x) == 32) || ((gt b x) == 9))) 36 cb_tf rfl (by kernel_rfl) (by kernel_rfl) (by kernel_rfl) rfl (fun _ _ _ _ h => h) rfl rfl rfl rfl rfl (fun hb1 _ => ev_mv rfl rfl) ?_
 refine SR.ggtake (b1 := (decide (x < (n : Int)))) (b := (((gt b x) == 32) || ((gt b x) == 9))) 37 cb_tf rfl (by kernel_rfl) (by kernel_rfl) (by kernel_rfl) rfl (fun _ _ _ _ h => h) rfl rfl rfl rfl rfl (fun hb1 hb => ev_nil rfl (lkg rfl hb)) ?_
 refine SR.ggtake (b1 := (decide (x < (n : Int)))) (b := (((gt b x) == 32) || ((gt b x) == 9))) 38 cb_tf rfl (by kernel_rfl) (by kernel_rfl) (by kernel_rfl) rfl (fun _ _ _ _ h => h) rfl rfl rfl rfl rfl (fun hb1 hb => ev_fa rfl fo86_0 (lkg rfl hb) (r := 0) rfl) ?_
 refine SR.ggtake (b1 := (decide (x < (n : Int)))) (b := (((gt b x) == 32) || ((gt b x) == 9))) 39 cb_tf rfl (by kernel_rfl) (by kernel_rfl) (by kernel_rfl) rfl (fun _ _ _ _ h => h) rfl rfl rfl rfl rfl (fun hb1 hb => ev_ld1 rfl ty36 (lkg rfl hb) (At.d (At.lent hR_1 0 rfl rfl))) ?_
 refine SR.ggtake (b1 := (decide (x < (n : Int)))) (b := (((gt b x) == 32) || ((gt b x) == 9))) 40 cb_tf rfl (by kernel_rfl) (by kernel_rfl) (by kernel_rfl) rfl (fun _ _ _ _ h => h) rfl rfl rfl rfl rfl (fun hb1 _ => ev_mv rfl rfl) ?_
 refine SR.ggtake (b1 := (decide (x < (n : Int)))) (b := (((gt b x) == 32) || ((gt b x) == 9))) 41 cb_tf rfl (by kernel_rfl) (by kernel_rfl) (by kernel_rfl) rfl (fun _ _ _ _ h => h) rfl rfl rfl rfl rfl (fun hb1 hb => ev_nil rfl (lkg rfl hb)) ?_
 refine SR.ggtake (b1 := (decide (x < (n : Int)))) (b := (((gt b x) == 32) || ((gt b x) == 9))) 42 cb_tf rfl (by kernel_rfl) (by kernel_rfl) (by kernel_rfl) rfl (fun _ _ _ _ h => h) rfl rfl rfl rfl rfl (fun hb1 hb => ev_fa rfl fo86_1 (lkg rfl hb) (r := 1) rfl) ?_
 refine SR.ggtake (b1 := (decide (x < (n : Int)))) (b := (((gt b x) == 32) || ((gt b x) == 9))) 43 cb_tf rfl (by kernel_rfl) (by kernel_rfl) (by kernel_rfl) rfl (fun _ _ _ _ h => h) rfl rfl rfl rfl rfl (fun hb1 hb => ev_ld1 rfl ty3 (lkg rfl hb) (At.d (At.lent hR_1 0 rfl rfl))) ?_
 refine SR.ggtake (b1 := (decide (x < (n : Int)))) (b := (((gt b x) == 32) || ((gt b x) == 9))) 44 cb_tf rfl (by kernel_rfl) (by kernel_rfl) (by kernel_rfl) rfl (fun _ _ _ _ h => h) rfl rfl rfl rfl rfl (fun hb1 hb => have hp := bT (bA bD (bN (bO bE bE))) hb; ev_ix rfl Try.underlying36 ty5 (lkg rfl hb) (lkg rfl hb) (by have _h := hp; omega) (by have _h := hp; omega) (fun _ _ => Fr.adr (i := x) (Fr.ext hA hx_1) (by have _h := hp; omega) (by have _h := hp; omega))) ?_
 refine SR.ggtake (b1 := (decide (x < (n : Int)))) (b := (((gt b x) == 32) || ((gt b x) == 9))) 45 cb_tf rfl (by kernel_rfl) (by kernel_rfl) (by kernel_rfl) rfl (fun _ _ _ _ h => h) rfl rfl rfl rfl rfl (fun hb1 hb => have hp := bT (bA bD (bN (bO bE bE))) hb; ev_ld1 rfl ty5 (lkg rfl hb) (At.elem1 (At.d (Fr.el (i := x) (Fr.ext hA hx_1) (by have _h := hp; omega) (by have _h := hp; omega))) 0 rfl)) ?_
 refine SR.ggtake (b1 := (decide (x < (n : Int)))) (b := (((gt b x) == 32) || ((gt b x) == 9))) 46 cb_tf rfl (by kernel_rfl) (by kernel_rfl) (by kernel_rfl) rfl (fun _ _ _ _ h => h) rfl rfl rfl rfl rfl (fun hb1 hb => ev_cmp rfl (lkg rfl hb) rfl rfl) ?_
 refine SR.gtake 47 rfl (by kernel_rfl) (by kernel_rfl) (by kernel_rfl) rfl (fun _ _ _ _ h => h) rfl rfl rfl rfl rfl (fun hb => ev_or rfl (lkg rfl hb) rfl (lkgn rfl cb_tf hb)) ?_
 refine SR.gtake 48 rfl (by kernel_rfl) (by kernel_rfl) (by kernel_rfl) rfl (fun _ _ _ _ h => h) rfl rfl rfl rfl rfl (fun hb => ev_mv rfl (lkg rfl hb)) ?_
 refine SR.ggtake (b1 := (decide (x < (n : Int)))) (b := ((((gt b x) == 32) || ((gt b x) == 9)) || ((gt b x) == 10))) 49 cb_tf rfl (by kernel_rfl) (by kernel_rfl) (by kernel_rfl) rfl (fun _ _ _ _ h => h) rfl rfl rfl rfl rfl (fun hb1 _ => ev_mv rfl rfl) ?_
 refine SR.ggtake (b1 := (decide (x < (n : Int)))) (b := ((((gt b x) == 32) || ((gt b x) == 9)) || ((gt b x) == 10))) 50 cb_tf rfl (by kernel_rfl) (by kernel_rfl) (by kernel_rfl) rfl (fun _ _ _ _ h => h) rfl rfl rfl rfl rfl (fun hb1 hb => ev_nil rfl (lkg rfl hb)) ?_
 refine SR.ggtake (b1 := (decide (x < (n : Int)))) (b := ((((gt b x) == 32) || ((gt b x) == 9)) || ((gt b x) == 10))) 51 cb_tf rfl (by kernel_rfl) (by kernel_rfl) (by kernel_rfl) rfl (fun _ _ _ _ h => h) rfl rfl rfl rfl rfl (fun hb1 hb => ev_fa rfl fo86_0 (lkg rfl hb) (r := 0) rfl) ?_
 refine SR.ggtake (b1 := (decide (x < (n : Int)))) (b := ((((gt b x) == 32) || ((gt b x) == 9)) || ((gt b x) == 10))) 52 cb_tf rfl (by kernel_rfl) (by kernel_rfl) (by kernel_rfl) rfl (fun _ _ _ _ h => h) rfl rfl rfl rfl rfl (fun hb1 hb => ev_ld1 rfl ty36 (lkg rfl hb) (At.d (At.lent hR_1 0 rfl rfl))) ?_
 refine SR.ggtake (b1 := (decide (x < (n : Int)))) (b := ((((gt b x) == 32) || ((gt b x) == 9)) || ((gt b x) == 10))) 53 cb_tf rfl (by kernel_rfl) (by kernel_rfl) (by kernel_rfl) rfl (fun _ _ _ _ h => h) rfl rfl rfl rfl rfl (fun hb1 _ => ev_mv rfl rfl) ?_
 refine SR.ggtake (b1 := (decide (x < (n : Int)))) (b := ((((gt b x) == 32) || ((gt b x) == 9)) || ((gt b x) == 10))) 54 cb_tf rfl (by kernel_rfl) (by kernel_rfl) (by kernel_rfl) rfl (fun _ _ _ _ h => h) rfl rfl rfl rfl rfl (fun hb1 hb => ev_nil rfl (lkg rfl hb)) ?_
 refine SR.ggtake (b1 := (decide (x < (n : Int)))) (b := ((((gt b x) == 32) || ((gt b x) == 9)) || ((gt b x) == 10))) 55 cb_tf rfl (by kernel_rfl) (by kernel_rfl) (by kernel_rfl) rfl (fun _ _ _ _ h => h) rfl rfl rfl rfl rfl (fun hb1 hb => ev_fa rfl fo86_1 (lkg rfl hb) (r := 1) rfl) ?_
 refine SR.ggtake (b1 := (decide (x < (n : Int)))) (b := ((((gt b x) == 32) || ((gt b x) == 9)) || ((gt b x) == 10))) 56 cb_tf rfl (by kernel_rfl) (by kernel_rfl) (by kernel_rfl) rfl (fun _ _ _ _ h => h) rfl rfl rfl rfl rfl (fun hb1 hb => ev_ld1 rfl ty3 (lkg rfl hb) (At.d (At.lent hR_1 0 rfl rfl))) ?_
 refine SR.ggtake (b1 := (decide (x < (n : Int)))) (b := ((((gt b x) == 32) || ((gt b x) == 9)) || ((gt b x) == 10))) 57 cb_tf rfl (by kernel_rfl) (by kernel_rfl) (by kernel_rfl) rfl (fun _ _ _ _ h => h) rfl rfl rfl rfl rfl (fun hb1 hb => have hp := bT (bA bD (bN (bO (bO bE bE) bE))) hb; ev_ix rfl Try.underlying36 ty5 (lkg rfl hb) (lkg rfl hb) (by have _h := hp; omega) (by have _h := hp; omega) (fun _ _ => Fr.adr (i := x) (Fr.ext hA hx_1) (by have _h := hp; omega) (by have _h := hp; omega))) ?_
 refine SR.ggtake (b1 := (decide (x < (n : Int)))) (b := ((((gt b x) == 32) || ((gt b x) == 9)) || ((gt b x) == 10))) 58 cb_tf rfl (by kernel_rfl) (by kernel_rfl) (by kernel_rfl) rfl (fun _ _ _ _ h => h) rfl rfl rfl rfl rfl (fun hb1 hb => have hp := bT (bA bD (bN (bO (bO bE bE) bE))) hb; ev_ld1 rfl ty5 (lkg rfl hb) (At.elem1 (At.d (Fr.el (i := x) (Fr.ext hA hx_1) (by have _h := hp; omega) (by have _h := hp; omega))) 0 rfl)) ?_
 refine SR.ggtake (b1 := (decide (x < (n : Int)))) (b := ((((gt b x) == 32) || ((gt b x) == 9)) || ((gt b x) == 10))) 59 cb_tf rfl (by kernel_rfl) (by kernel_rfl) (by kernel_rfl) rfl (fun _ _ _ _ h => h) rfl rfl rfl rfl rfl (fun hb1 hb => ev_cmp rfl (lkg rfl hb) rfl rfl) ?_
 refine SR.gtake 60 rfl (by kernel_rfl) (by kernel_rfl) (by kernel_rfl) rfl (fun _ _ _ _ h => h) rfl rfl rfl rfl rfl (fun hb => ev_or rfl (lkg rfl hb) rfl (lkgn rfl cb_tf hb)) ?_
 refine SR.tk 61 rfl (by kernel_rfl) rfl rfl rfl (ev_and rfl rfl rfl rfl) ?_
 refine SR.fin (by kernel_rfl) hl_1 hx_1 hR_1 .n ?_
 refine SQ.go (fun _ _ h => h) ?_
 refine .condI rfl (bA bD (bO (bO (bO bE bE) bE) bE)) (fun h2 => ?_) (fun h2 => ?_)
 ·
  refine .skipgo (fun _ _ h => h) ?_
  refine .block ?_
  refine .region ?_
  refine .ev (ev_mv rfl rfl) rfl rfl rfl ?_
  refine .ev (ev_mv rfl rfl) rfl rfl rfl ?_
  refine .ev (ev_nil rfl rfl) rfl rfl rfl ?_
  refine .ev (ev_fa rfl fo86_1 rfl (r := 1) rfl) rfl rfl rfl ?_
  refine .ev (ev_ld1 rfl ty3 rfl (At.own1 0 rfl rfl)) rfl rfl rfl ?_
  refine .ev (ev_add rfl rfl rfl (r := (x + 1)) rfl (by omega) (by omega)) rfl rfl rfl ?_
  refine .ev (ev_nil rfl rfl) rfl rfl rfl ?_
  refine .ev (ev_fa rfl fo86_1 rfl (r := 1) rfl) rfl rfl rfl ?_
  refine .cons (st_store1 rfl rfl rfl ty3 rfl rfl rfl .h (.t .h) ?_)
  exact SP.nil (SQ.roundb (X := Int) (x := (x)) (x + 1) (by exact ⟨by omega, by omega, gap_next q_0 (by omega) (by unfold SX.blank; omega) q_2⟩) (by show (_ : Nat) < _; omega) (Sub.get (.c rfl .n)) (fun w hw => hw.keep (.c .h .n)))
 ·
  exact .exitq (fun _ _ h => h) (end0 Try.results37 (.c .h .n) ⟨x, (gap_end q_0 q_2 (by unfold SX.blank; intro h_; simp_all)), q_1, rfl, rfl⟩)
theorem here_ (g : Nat) (A : Option Addr) (n : Nat) (c : Nat) (b : List Int) (i : Int) (bad : Int) (pos : Int) (v : Value) (S : Nat → Prop) (wf : World) (hA : Fr eY S wf A b) (hn : b.length = n) (hN : n ≤ 65536) (hr : ∀ x ∈ b, isB x) (hcap : n ≤ c) (hi : 0 ≤ i ∧ i ≤ 100000) :
  TR0 Try.prog 68 [.pointer (some ⟨g, 0, none⟩)] [cel g [.slice A n c, .int .i64 i, .int .i64 bad, .int .i64 pos, v] 86] S wf (fun v_ C_ => ∃ (r : Int) (bad2 : Int) (pos2 : Int), (r = hereF b (LS.mk i bad pos)) ∧ ((LS.mk i bad2 pos2) = hereS b (LS.mk i bad pos)) ∧ v_ = .int .i64 r ∧ C_ = [cel g [.slice A n c, .int .i64 i, .int .i64 bad2, .int .i64 pos2, v] 86]) := by
 have hla := hA.len
 refine TR.mk Try.func68 rfl Try.ntmps68 rfl rfl (fun w_ => ?_)
 refine .seq ?_
 refine .region ?_
 refine .ev (ev_as rfl rfl) rfl rfl rfl ?_
 refine .go (fun _ _ h => h) ?_
 refine .seq ?_
 refine .seq ?_
 refine .region ?_
 refine .ev (ev_mv rfl rfl) rfl rfl rfl ?_
 refine .ev (ev_nil rfl rfl) rfl rfl rfl ?_
 refine .ev (ev_fa rfl fo86_2 rfl (r := 2) rfl) rfl rfl rfl ?_
 refine .ev (ev_ld1 rfl ty3 rfl (At.own1 0 rfl rfl)) rfl rfl rfl ?_
 refine .ev (ev_cmp rfl rfl rfl rfl) rfl rfl rfl ?_
 refine .go (fun _ _ h => h) ?_
 refine .condI rfl bNE (fun h1 => ?_) (fun h1 => ?_)
 ·
  refine .seq ?_
  refine .region ?_
  refine .ev (ev_as rfl rfl) rfl rfl rfl ?_
  refine .go (fun _ _ h => h) ?_
  exact .ret (fun _ _ h => h) (ret1 Try.results68 rfl (.c .h .n) ⟨(-1), bad, pos, (here_bad (by assumption)).1, (here_bad (by assumption)).2, rfl, rfl⟩)
 ·
  refine .skipgo (fun _ _ h => h) ?_
  refine .seq ?_
  refine .seq ?_
  refine SC.draw mo [] [] .n (fun _ _ _ c hc => by cases hc) (fun wf_2 hl_2 hx_2 hR_2 => ?_)
  refine SR.tk 0 rfl (by kernel_rfl) rfl rfl rfl (ev_mv rfl rfl) ?_
  refine SR.tk 1 rfl (by kernel_rfl) rfl rfl rfl (ev_nil rfl rfl) ?_
  refine SR.tk 2 rfl (by kernel_rfl) rfl rfl rfl (ev_fa rfl fo86_1 rfl (r := 1) rfl) ?_
  refine SR.tk 3 rfl (by kernel_rfl) rfl rfl rfl (ev_ld1 rfl ty3 rfl (At.d (At.lent hR_2 0 rfl rfl))) ?_
  refine SR.tk 4 rfl (by kernel_rfl) rfl rfl rfl (ev_mv rfl rfl) ?_
  refine SR.tk 5 rfl (by kernel_rfl) rfl rfl rfl (ev_nil rfl rfl) ?_
  refine SR.tk 6 rfl (by kernel_rfl) rfl rfl rfl (ev_fa rfl fo86_0 rfl (r := 0) rfl) ?_
  refine SR.tk 7 rfl (by kernel_rfl) rfl rfl rfl (ev_ld1 rfl ty36 rfl (At.d (At.lent hR_2 0 rfl rfl))) ?_
  refine SR.tk 8 rfl (by kernel_rfl) rfl rfl rfl (ev_len rfl Try.underlying36 rfl) ?_
  refine SR.tk 9 rfl (by kernel_rfl) rfl rfl rfl (ev_cmp rfl rfl rfl rfl) ?_
  refine SR.fin (by kernel_rfl) hl_2 hx_2 hR_2 .n ?_
  refine SQ.go (fun _ _ h => h) ?_
  refine .condI rfl bD (fun h3 => ?_) (fun h3 => ?_)
  ·
   refine .seq ?_
   refine .region ?_
   refine .ev (ev_mv rfl rfl) rfl rfl rfl ?_
   refine .ev (ev_mv rfl rfl) rfl rfl rfl ?_
   refine .ev (ev_nil rfl rfl) rfl rfl rfl ?_
   refine .ev (ev_fa rfl fo86_0 rfl (r := 0) rfl) rfl rfl rfl ?_
   refine .ev (ev_ld1 rfl ty36 rfl (At.own1 0 rfl rfl)) rfl rfl rfl ?_
   refine .ev (ev_len rfl Try.underlying36 rfl) rfl rfl rfl ?_
   refine .cons (st_call0 rfl rfl rfl rfl hbd38 rfl (.c .h .n) (no_ g A n c i bad pos v (n : Int) 21 _ _) (fun v_q6 C_q6 q6 => ?_))
   obtain ⟨bad24, pos25, p7, rfl, rfl⟩ := q6
   show SP _ _ _ _ _ _ ⟨_, _ :: _, _, _⟩
   refine .go (fun _ _ h => h) ?_
   refine .seq ?_
   refine .region ?_
   refine .ev (ev_as rfl rfl) rfl rfl rfl ?_
   refine .go (fun _ _ h => h) ?_
   exact .ret (fun _ _ h => h) (ret1 Try.results68 rfl (.c .h .n) ⟨(-1), bad24, pos25, (here_end hn (by omega) p7).1, (here_end hn (by omega) p7).2, rfl, rfl⟩)
  ·
   refine .skipgo (fun _ _ h => h) ?_
   refine .seq ?_
   refine SC.draw mo [] [] .n (fun _ _ _ c hc => by cases hc) (fun wf_8 hl_8 hx_8 hR_8 => ?_)
   refine SR.tk 0 rfl (by kernel_rfl) rfl rfl rfl (ev_mv rfl rfl) ?_
   refine SR.tk 1 rfl (by kernel_rfl) rfl rfl rfl (ev_nil rfl rfl) ?_
   refine SR.tk 2 rfl (by kernel_rfl) rfl rfl rfl (ev_fa rfl fo86_0 rfl (r := 0) rfl) ?_
   refine SR.tk 3 rfl (by kernel_rfl) rfl rfl rfl (ev_ld1 rfl ty36 rfl (At.d (At.lent hR_8 0 rfl rfl))) ?_
   refine SR.tk 4 rfl (by kernel_rfl) rfl rfl rfl (ev_mv rfl rfl) ?_
   refine SR.tk 5 rfl (by kernel_rfl) rfl rfl rfl (ev_nil rfl rfl) ?_
   refine SR.tk 6 rfl (by kernel_rfl) rfl rfl rfl (ev_fa rfl fo86_1 rfl (r := 1) rfl) ?_
   refine SR.tk 7 rfl (by kernel_rfl) rfl rfl rfl (ev_ld1 rfl ty3 rfl (At.d (At.lent hR_8 0 rfl rfl))) ?_
   refine SR.tk 8 rfl (by kernel_rfl) rfl rfl rfl (ev_ix rfl Try.underlying36 ty5 rfl rfl (by omega) (by omega) (fun _ _ => Fr.adr (i := i) (Fr.ext hA hx_8) (by omega) (by omega))) ?_
   refine SR.tk 9 rfl (by kernel_rfl) rfl rfl rfl (ev_ld1 rfl ty5 rfl (At.elem1 (At.d (Fr.el (i := i) (Fr.ext hA hx_8) (by omega) (by omega))) 0 rfl)) ?_
   refine SR.tk 10 rfl (by kernel_rfl) rfl rfl rfl (ev_cv rfl Try.underlying5 Try.underlying3 rfl (wrap_b_i64 (gt_range hr _))) ?_
   refine SR.tk 11 rfl (by kernel_rfl) rfl rfl rfl (ev_as rfl rfl) ?_
   refine SR.fin (by kernel_rfl) hl_8 hx_8 hR_8 .n ?_
   refine SQ.go (fun _ _ h => h) ?_
   exact .ret (fun _ _ h => h) (ret1 Try.results68 rfl (.c .h .n) ⟨(gt b i), bad, pos, (here_ok hn (by assumption) (by omega)).1, (here_ok hn (by assumption) (by omega)).2, rfl, rfl⟩)
theorem next_ (g : Nat) (A : Option Addr) (n : Nat) (c : Nat) (b : List Int) (i : Int) (bad : Int) (pos : Int) (v : Value) (S : Nat → Prop) (wf : World) (hA : Fr eY S wf A b) (hn : b.length = n) (hN : n ≤ 65536) (hr : ∀ x ∈ b, isB x) (hcap : n ≤ c) (hi : 0 ≤ i ∧ i ≤ 100000) :
  TR0 Try.prog 54 [.pointer (some ⟨g, 0, none⟩)] [cel g [.slice A n c, .int .i64 i, .int .i64 bad, .int .i64 pos, v] 86] S wf (fun v_ C_ => ∃ (r : Int) (i2 : Int) (bad2 : Int) (pos2 : Int), (r = nextF b (LS.mk i bad pos)) ∧ ((LS.mk i2 bad2 pos2) = nextS b (LS.mk i bad pos)) ∧ ((i ≤ i2 ∧ (i ≤ n → i2 ≤ n) ∧ (n ≤ i → i2 = i))) ∧ ((r = -1 ∧ bad2 ≠ 0) ∨ (((0 ≤ r ∧ r < 256) ∧ r = gt b i2) ∧ bad = 0 ∧ bad2 = 0 ∧ pos2 = pos ∧ i2 < (n : Int))) ∧ v_ = .int .i64 r ∧ C_ = [cel g [.slice A n c, .int .i64 i2, .int .i64 bad2, .int .i64 pos2, v] 86]) := by
 have hla := hA.len
 refine TR.mk Try.func54 rfl Try.ntmps54 rfl rfl (fun w_ => ?_)
 refine .seq ?_
 refine .region ?_
 refine .ev (ev_as rfl rfl) rfl rfl rfl ?_
 refine .go (fun _ _ h => h) ?_
 refine .seq ?_
 refine .region ?_
 refine .ev (ev_mv rfl rfl) rfl rfl rfl ?_
 refine .cons (st_call0 rfl rfl rfl rfl hbd37 rfl (.c .h .n) (gap_ g A n c b i bad pos v _ _ hA (by first | ((try simp only [LL]) <;> omega) | omega | (simp <;> omega)) (by omega) (by omega) (by omega) (by omega)) (fun v_q2 C_q2 q2 => ?_))
 obtain ⟨i21, p3, p4, rfl, rfl⟩ := q2
 show SP _ _ _ _ _ _ ⟨_, _ :: _, _, _⟩
 refine .go (fun _ _ h => h) ?_
 refine .seq ?_
 refine .region ?_
 refine .ev (ev_mv rfl rfl) rfl rfl rfl ?_
 refine .cons (st_call0 rfl rfl rfl rfl hbd68 rfl (.c .h .n) (here_ g A n c b i21 bad pos v _ _ hA (by first | ((try simp only [LL]) <;> omega) | omega | (simp <;> omega)) (by omega) (by omega) (by omega) (by omega)) (fun v_q8 C_q8 q8 => ?_))
 obtain ⟨r5, bad26, pos27, p9, p10, rfl, rfl⟩ := q8
 show SP _ _ _ _ _ _ ⟨_, _ :: _, _, _⟩
 have hf_p9 := here_fact hr hn p9 p10
 refine .ev (ev_as rfl rfl) rfl rfl rfl ?_
 refine .go (fun _ _ h => h) ?_
 exact .ret (fun _ _ h => h) (ret1 Try.results54 rfl (.c .h .n) ⟨r5, i21, bad26, pos27, (next_of p3 p9 p10).1, (next_of p3 p9 p10).2, p4, hf_p9, rfl, rfl⟩)
theorem word2_ (g : Nat) (A : Option Addr) (n : Nat) (c : Nat) (b : List Int) (i : Int) (bad : Int) (pos : Int) (v : Value) (w : ByteArray) (S : Nat → Prop) (wf : World) (hA : Fr eY S wf A b) (hn : b.length = n) (hN : n ≤ 65536) (hr : ∀ x ∈ b, isB x) (hcap : n ≤ c) (hi : 0 ≤ i ∧ i ≤ 90000) (hw : w.size ≤ 10) :
  TR0 Try.prog 55 [.pointer (some ⟨g, 0, none⟩), .string w] [cel g [.slice A n c, .int .i64 i, .int .i64 bad, .int .i64 pos, v] 86] S wf (fun v_ C_ => ∃ (i2 : Int) (bad2 : Int) (pos2 : Int), ((LS.mk i2 bad2 pos2) = wordF b (bs w) (LS.mk i bad pos)) ∧ ((i ≤ i2 ∧ (i ≤ n → i2 ≤ n) ∧ (bad2 = 0 → i2 = i + w.size ∧ (w.size ≠ 0 → bad = 0)))) ∧ v_ = .tuple #[] ∧ C_ = [cel g [.slice A n c, .int .i64 i2, .int .i64 bad2, .int .i64 pos2, v] 86]) := by
 have hla := hA.len
 have hbs := bs_len w
 refine TR.mk Try.func55 rfl Try.ntmps55 rfl rfl (fun w_ => ?_)
 refine .seq ?_
 refine .region ?_
 refine .ev (ev_as rfl rfl) rfl rfl rfl ?_
 refine .go (fun _ _ h => h) ?_
 refine .block ?_
 refine .loop (X := Int × Int × Int × Int) (fun ⟨x, i1, bad1, pos1⟩ => 0 ≤ x ∧ x ≤ w.size ∧ (i ≤ i1 ∧ i1 ≤ i + x ∧ (i ≤ n → i1 ≤ n) ∧ i1 = i + x ∧ (x ≠ 0 → bad = 0) ∧ (x = 0 → bad1 = bad)) ∧ wordF b ((bs w).drop x.toNat) (LS.mk i1 bad1 pos1) = wordF b (bs w) (LS.mk i bad pos)) (fun ⟨x, i1, bad1, pos1⟩ => [(0, .pointer (some ⟨g, 0, none⟩)), (1, .string w), (4, .int .i64 x)]) (fun ⟨x, i1, bad1, pos1⟩ => [cel g [.slice A n c, .int .i64 i1, .int .i64 bad1, .int .i64 pos1, v] 86]) (fun _ => S) (fun _ => wf) (fun ⟨x, i1, bad1, pos1⟩ => (w.size - x.toNat)) (fun a_ w_ hs_ hw_ => ⟨⟨0, i, bad, pos⟩, (by exact ⟨by omega, by omega, by omega, rfl⟩), hs_.mono (Sub.get (.c rfl (.c rfl (.c rfl .n)))), hw_.keep (.c .h .n)⟩) (fun ⟨x, i1, bad1, pos1⟩ ⟨q_0, q_1, q_2, q_3⟩ => ?_)
 show SC _ _ _ _ _ ⟨[(0, .pointer (some ⟨g, 0, none⟩)), (1, .string w), (4, .int .i64 x)], [cel g [.slice A n c, .int .i64 i1, .int .i64 bad1, .int .i64 pos1, v] 86], S, wf⟩
 refine .seq ?_
 refine .seq ?_
 refine .region ?_
 refine .ev (ev_mv rfl rfl) rfl rfl rfl ?_
 refine .ev (ev_mv rfl rfl) rfl rfl rfl ?_
 refine .ev (ev_lens rfl Try.underlying9 rfl) rfl rfl rfl ?_
 refine .ev (ev_cmp rfl rfl rfl rfl) rfl rfl rfl ?_
 refine .go (fun _ _ h => h) ?_
 refine .condI rfl bD (fun h1 => ?_) (fun h1 => ?_)
 ·
  refine .skipgo (fun _ _ h => h) ?_
  refine .seq ?_
  refine .block ?_
  refine .seq ?_
  refine .region ?_
  refine .ev (ev_mv rfl rfl) rfl rfl rfl ?_
  refine .cons (st_call0 rfl rfl rfl rfl hbd68 rfl (.c .h .n) (here_ g A n c b i1 bad1 pos1 v _ _ hA (by first | ((try simp only [LL]) <;> omega) | omega | (simp <;> omega)) (by omega) (by omega) (by omega) (by omega)) (fun v_q5 C_q5 q5 => ?_))
  obtain ⟨r2, bad23, pos24, p6, p7, rfl, rfl⟩ := q5
  show SP _ _ _ _ _ _ ⟨_, _ :: _, _, _⟩
  have hf_p6 := here_fact hr hn p6 p7
  refine .ev (ev_as rfl rfl) rfl rfl rfl ?_
  refine .go (fun _ _ h => h) ?_
  refine .seq ?_
  refine .seq ?_
  refine .region ?_
  refine .ev (ev_mv rfl rfl) rfl rfl rfl ?_
  refine .ev (ev_cmp rfl rfl rfl rfl) rfl rfl rfl ?_
  refine .go (fun _ _ h => h) ?_
  refine .condI rfl bD (fun h8 => ?_) (fun h8 => ?_)
  ·
   exact .ret (fun _ _ h => h) (ret0 Try.results55 (.c .h .n) ⟨i1, bad23, pos24, p7.trans (word_low q_0 (by rw [bs_len]; omega) q_3 (by rw [← p6]; omega)), (by omega), rfl, rfl⟩)
  ·
   refine .skipgo (fun _ _ h => h) ?_
   refine .seq ?_
   refine .seq ?_
   refine .region ?_
   refine .ev (ev_mv rfl rfl) rfl rfl rfl ?_
   refine .ev (ev_mv rfl rfl) rfl rfl rfl ?_
   refine .ev (ev_mv rfl rfl) rfl rfl rfl ?_
   refine .ev (ev_ixs rfl Try.underlying9 rfl rfl (by omega) (by first | omega | (rw [bs_len]; omega) | decide)) rfl rfl rfl ?_
   refine .ev (ev_cv rfl Try.underlying5 Try.underlying3 rfl (wrap_b_i64 (gt_range (bs_range _) _))) rfl rfl rfl ?_
   refine .ev (ev_cmp rfl rfl rfl rfl) rfl rfl rfl ?_
   refine .go (fun _ _ h => h) ?_
   refine .condI rfl bNE (fun h9 => ?_) (fun h9 => ?_)
   ·
    refine .seq ?_
    refine .region ?_
    refine .ev (ev_mv rfl rfl) rfl rfl rfl ?_
    refine .ev (ev_mv rfl rfl) rfl rfl rfl ?_
    refine .ev (ev_nil rfl rfl) rfl rfl rfl ?_
    refine .ev (ev_fa rfl fo86_1 rfl (r := 1) rfl) rfl rfl rfl ?_
    refine .ev (ev_ld1 rfl ty3 rfl (At.own1 0 rfl rfl)) rfl rfl rfl ?_
    refine .cons (st_call0 rfl rfl rfl rfl hbd38 rfl (.c .h .n) (no_ g A n c i1 bad23 pos24 v i1 22 _ _) (fun v_q12 C_q12 q12 => ?_))
    obtain ⟨bad210, pos211, p13, rfl, rfl⟩ := q12
    show SP _ _ _ _ _ _ ⟨_, _ :: _, _, _⟩
    refine .go (fun _ _ h => h) ?_
    exact .ret (fun _ _ h => h) (ret0 Try.results55 (.c .h .n) ⟨i1, bad210, pos211, (by have e_ : bad1 = bad23 := (by omega); have e2_ : pos1 = pos24 := (by omega); subst e_; subst e2_; exact (noF_eq p13).trans (word_no q_0 (by rw [bs_len]; omega) q_3 (by rw [← p6]; omega) (by rw [← p6]; omega))), (by omega), rfl, rfl⟩)
   ·
    refine .skipgo (fun _ _ h => h) ?_
    refine .region ?_
    refine .ev (ev_mv rfl rfl) rfl rfl rfl ?_
    refine .ev (ev_mv rfl rfl) rfl rfl rfl ?_
    refine .ev (ev_nil rfl rfl) rfl rfl rfl ?_
    refine .ev (ev_fa rfl fo86_1 rfl (r := 1) rfl) rfl rfl rfl ?_
    refine .ev (ev_ld1 rfl ty3 rfl (At.own1 0 rfl rfl)) rfl rfl rfl ?_
    refine .ev (ev_add rfl rfl rfl (r := (i1 + 1)) rfl (by omega) (by omega)) rfl rfl rfl ?_
    refine .ev (ev_nil rfl rfl) rfl rfl rfl ?_
    refine .ev (ev_fa rfl fo86_1 rfl (r := 1) rfl) rfl rfl rfl ?_
    refine .cons (st_store1 rfl rfl rfl ty3 rfl rfl rfl .h (.t .h) ?_)
    refine .go (fun _ _ h => h) ?_
    refine .region ?_
    refine .ev (ev_mv rfl rfl) rfl rfl rfl ?_
    refine .ev (ev_add rfl rfl rfl (r := (x + 1)) rfl (by omega) (by omega)) rfl rfl rfl ?_
    refine .ev (ev_as rfl rfl) rfl rfl rfl ?_
    exact SP.nil (SQ.roundb (X := Int × Int × Int × Int) (x := (x, i1, bad1, pos1)) ⟨(x + 1), (i1 + 1), bad23, pos24⟩ (by exact ⟨by omega, by omega, by omega, (by have e_ : bad1 = bad23 := (by omega); have e2_ : pos1 = pos24 := (by omega); rw [← e_, ← e2_]; exact word_go q_0 (by rw [bs_len]; omega) q_3 (by rw [← p6]; omega) (by rw [← p6]; omega))⟩) (by dsimp only; omega) (Sub.get (.c rfl (.c rfl (.c rfl .n)))) (fun w hw => hw.keep (.c .h .n)))
 ·
  exact .exitq (fun _ _ h => h) (end0 Try.results55 (.c .h .n) ⟨i1, bad1, pos1, word_end (by rw [bs_len]; omega) q_3, (by omega), rfl, rfl⟩)
end Go.Proofs.Ythmkelkefmfmgaa.Sx
