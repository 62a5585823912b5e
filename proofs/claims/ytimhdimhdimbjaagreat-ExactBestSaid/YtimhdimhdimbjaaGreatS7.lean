import Derived.Test.YtimhdimhdimbjaaGreatProg
import Derived.Test.YtimhdimhdimbjaaGreatS6
set_option linter.unusedVariables false
set_option linter.unusedSimpArgs false
set_option linter.unusedSectionVars false
set_option maxRecDepth 20000
set_option maxHeartbeats 1000000
namespace Go.Proofs.YtimhdimhdimbjaaGreat.Sx.FU
open Go Go.SX Go.Proofs Go.Proofs.Tryz FA FB FC FD FE FF FG FH FJ FK FL FM FP FQ
theorem hbd25 : hasBody prog 25 = true := by kernel_rfl
theorem hbd26 : hasBody prog 26 = true := by kernel_rfl
end Go.Proofs.YtimhdimhdimbjaaGreat.Sx.FU
namespace Go.Proofs.YtimhdimhdimbjaaGreat.Sx
open Go Go.SX Go.Proofs Go.Proofs.Tryz FA FB FC FD FE FF FG FH FJ FK FL FM FP FQ FU
theorem rhas_ (A : Option Addr) (n : Nat) (c : Nat) (l : List RT) (x : Vis) (S : Nat → Prop) (wf : World) (hA : Fr eRT S wf A l) (hRT : RTF S wf l) (hn : l.length = n) (hvs : ∀ i : Int, (gt l i).vis.length ≤ 1000) :
  TR0 prog 26 [.agg #[.slice A n c], .agg #[.int .i64 x.kind, .int .i64 x.item]] [] S wf (fun v_ C_ => v_ = .bool (decide (x ∈ allV (l.map rc))) ∧ C_ = []) := by
 have hla := hA.len
 refine TR.mk func26 G ntmps26 G G (fun w_ => ?_)
 refine .seq (.region (.cons (st_boxa G G G G G (fun b1 => (.cons (st_boxa G G G G G (fun b2 => (.a G G G ?_))))))))
 refine .go idQ (.seq (.seq (.region (.a G G G (.go idQ (.block (.loop (X := Int) (fun i => 0 ≤ i ∧ i ≤ (n : Int) ∧ (∀ j : Int, 0 ≤ j → j < i → x ∉ (gt l j).vis)) (fun i => [(2, .pointer (some ⟨b1, 0, none⟩)), (3, .pointer (some ⟨b2, 0, none⟩)), (5, .int .i64 i)]) (fun i => [cel b2 [.int .i64 x.kind, .int .i64 x.item] 92, cel b1 [.slice A n c] 34]) (fun _ => S) (fun _ => wf) (fun i => ((n : Int) - i).toNat) (fun a_ w_ hs_ hw_ => ⟨0, (by (try dsimp only); exact ⟨oO, oO, (fun j h0_ h1_ => by omega)⟩), hs_.mono (Sub.get (.c G (.c G (.c G .n)))), hw_.keep (.d .n)⟩) (fun i ⟨q_0, q_1, q_2⟩ => ?_))))))))
 try dsimp only
 refine .seq (.seq (.region (.m G G G (.f fo34_0 0 G G G G (.l ty32 1 G G G G G ?_)))))
 refine .g underlying32 G G G (.e G G G G G (.go idQ (.condI G bD (fun h3 => ?_) (fun h3 => ?_))))
 ·
  refine .skipgo idQ (.seq (.block (.seq (.region (.a G G G (.go idQ (.block (.loop (X := Int) (fun j => 0 ≤ j ∧ j ≤ ((gt l i).vis.length : Int) ∧ (∀ k : Int, 0 ≤ k → k < j → ¬ gt (gt l i).vis k = x)) (fun j => [(2, .pointer (some ⟨b1, 0, none⟩)), (3, .pointer (some ⟨b2, 0, none⟩)), (5, .int .i64 i), (6, .int .i64 j)]) (fun j => [cel b2 [.int .i64 x.kind, .int .i64 x.item] 92, cel b1 [.slice A n c] 34]) (fun _ => S) (fun _ => wf) (fun j => (((gt l i).vis.length : Int) - j).toNat) (fun a_ w_ hs_ hw_ => ⟨0, (by (try dsimp only); exact ⟨oO, oO, (fun j h0_ h1_ => by omega)⟩), hs_.mono (Sub.get (.c4 G G G G .n)), hw_.keep (.d .n)⟩) (fun j ⟨r_0, r_1, r_2⟩ => ?_)))))))))
  try dsimp only
  refine .seq (.seq ?_)
  have hvi := hvs i
  refine .region (.m G G G (.f fo34_0 0 G G G G (.l ty32 1 G G G G G ?_)))
  refine .m G G G (.v (ev_ix G underlying32 ty54 G G oO oO (fun _ _ => Fr.adr (i := i) hA oO oO)) G (.f fo54_1 (ao A + (i).toNat * 2 + 1) G G G G (.v (ev_ld1 G ty52 G (At.elem1 (At.w (Fr.el (i := i) hA oO oO)) 1 G)) G ?_)))
  refine .g underlying52 G G G (.e G G G G G (.go idQ (.condI G bD (fun h4 => ?_) (fun h4 => ?_))))
  ·
   refine .skipgo idQ (.seq (.block (.seq ?_)))
   have hvi := hvs i
   refine SC.draw mo [] [] .n (fun _ _ _ => sc0) (fun wf_5 hl_5 hx_5 hR_5 => ?_)
   refine SR.z 0 G G (ev_fa G fo34_0 G (r := 0) G) ?_
   refine SR.z 1 G G (ev_ld1 G ty32 G (At.d (At.lent hR_5 1 G G))) ?_
   refine SR.m 2 G G G G ?_
   refine SR.z 3 G G (ev_ix G underlying32 ty54 G G oO oO (fun _ _ => Fr.adr (i := i) (Fr.ext hA hx_5) oO oO)) ?_
   refine SR.z 4 G G (ev_fa G fo54_1 G (r := ao A + (i).toNat * 2 + 1) G) ?_
   refine SR.z 5 G G (ev_ld1 G ty52 G (At.elem1 (At.d (Fr.el (i := i) (Fr.ext hA hx_5) oO oO)) 1 G)) ?_
   refine SR.m 6 G G G G ?_
   refine SR.z 7 G G (ev_ix G underlying52 ty92 G G oO oO (fun _ _ => Fr.adr (i := j) (((hRT).ext hx_5) i) oO oO)) ?_
   refine SR.z 8 G G (ev_lda G G (At.d (Fr.el (i := j) (((hRT).ext hx_5) i) oO oO)) ty92) ?_
   refine SR.z 9 G G (ev_lda (cs := [.int .i64 x.kind, .int .i64 x.item]) G G (At.d (At.lent hR_5 0 G G)) ty92) ?_
   refine SR.z 10 G G (ev_bin G G G (r := .bool ((((gt ((gt l i).vis) j).kind) == x.kind) && (((gt ((gt l i).vis) j).item) == x.item))) (ev92_eql _ _ _ _ _ _)) ?_
   refine SR.fin kR hl_5 hx_5 hR_5 .n ?_
   refine SQ.go idQ ?_
   refine .condI G (bA bE bE) (fun h6 => ?_) (fun h6 => ?_)
   ·
    refine .seq (.region (.a G G G (.go idQ (.ret idQ (ret1 results26 G .n ⟨(congrArg Value.bool (decide_eq_true (has_yes (i := i) (j := j) oO oO oO oO (vis_of h6))).symm), G⟩)))))
   refine .skipgo idQ (.region (.m G G G (.p ((j + 1)) oO oO G G G G G (.a G G G ?_))))
   exact SP.nil (SQ.roundb (X := Int) (x := (j)) (j + 1) (by (try dsimp only); exact ⟨oO, oO, (upto_nx r_2 (vis_no h6))⟩) (by show (_ : Nat) < _; omega) (Sub.get (.c4 G G G G .n)) (kp (.d .n)))
  refine .exit idQ ?_
  refine .region (.m G G G (.p ((i + 1)) oO oO G G G G G (.a G G G ?_)))
  exact SP.nil (SQ.roundb (X := Int) (x := (i)) (i + 1) (by (try dsimp only); exact ⟨oO, oO, (upto_nx q_2 (not_in r_2 oO))⟩) (by show (_ : Nat) < _; omega) (Sub.get (.c G (.c G (.c G .n)))) (kp (.d .n)))
 refine .exit idQ ?_
 refine .seq (.region (.a G G G (.go idQ (.ret idQ (ret1 results26 G .n ⟨(congrArg Value.bool (decide_eq_false (has_no q_2 oO)).symm), G⟩)))))
theorem rcheck15_ (p : PB) (A : Option Addr) (c : Nat) (l : List RT) (S : Nat → Prop) (wf : World) (hA : Fr eRT S wf A l) (hPB : PBF S wf p) (hRT : RTF S wf l) (hL : LawP p) (hls : l.length ≤ 15) (hlc : l.length ≤ c) (hvs : ∀ i : Int, (gt l i).vis.length ≤ 50) (hS : SolI p (l.map rc)) (hN : (allV (l.map rc)).Nodup) :
  TR0 prog 10 [.agg (cPB p).toArray, .agg #[.slice A l.length c]] [] S wf (fun v_ C_ => v_ = .tuple #[.int .i64 (-1), .int .i64 0] ∧ C_ = []) := by
 have hla := hA.len
 have hlv := hPB.2.2.1.1.len
 refine TR.mk func10 G ntmps10 G G (fun w_ => ?_)
 refine .seq (.region (.cons (st_boxa G G G G G (fun b1 => (.cons (st_boxa G G G G G (fun b2 => (.a G G G ?_))))))))
 refine .a G G G (.go idQ (.seq (.seq (.region (.a G G G (.go idQ (.block ?_)))))))
 refine .loop (X := Int) (fun i => 0 ≤ i ∧ i ≤ (l.length : Int) ∧ True) (fun i => [(2, .pointer (some ⟨b1, 0, none⟩)), (3, .pointer (some ⟨b2, 0, none⟩)), (6, .int .i64 i)]) (fun i => [cel b2 [.slice A l.length c] 34, cel b1 (cPB p) 29]) (fun _ => S) (fun _ => wf) (fun i => ((l.length : Int) - i).toNat) (fun a_ w_ hs_ hw_ => ⟨0, (by (try dsimp only); exact ⟨oO, oO, trivial⟩), hs_.mono (Sub.get (.c G (.c G (.c G .n)))), hw_.keep (.d .n)⟩) (fun i ⟨q_0, q_1, q_2⟩ => ?_)
 try dsimp only
 refine .seq (.seq (.region (.m G G G (.f fo34_0 0 G G G G (.l ty32 0 G G G G G ?_)))))
 refine .g underlying32 G G G (.e G G G G G (.go idQ (.condI G bD (fun h3 => ?_) (fun h3 => ?_))))
 ·
  refine .skipgo idQ (.seq (.block (.seq (.region (.f fo34_0 0 G G G G (.l ty32 0 G G G G G (.m G G G ?_)))))))
  refine .v (ev_ix G underlying32 ty54 G G oO oO (fun _ _ => Fr.adr (i := i) hA oO oO)) G (.v (ev_lda G G (At.w (Fr.el (i := i) hA oO oO)) ty54) G (.cons (st_alloc G G G G zf54 (fun b4 => (.cons (st_storea (l' := [.int .i64 ((gt l i).veh), .slice ((gt l i).rA) ((gt l i).vis.length) ((gt l i).rc)]) G G G ty54 G G G .h G G ?_))))))
  refine .go idQ (.seq (.seq ?_))
  obtain ⟨hv1, hv2, hv3, hv4⟩ := sol_at hS (i := i) oO oO
  have hvi := hvs i
  refine SC.draw mo [] [] .n (fun _ _ _ => sc0) (fun wf_5 hl_5 hx_5 hR_5 => ?_)
  refine SR.z 0 G G (ev_fa G fo54_0 G (r := 0) G) ?_
  refine SR.z 1 G G (ev_ld1 G ty3 G (At.d (At.lent hR_5 0 G G))) ?_
  refine SR.z 2 G G (ev_cmp G G G G) ?_
  refine SR.m 3 G G G G ?_
  refine SR.y 4 G G (fun _ => ev_fa G fo54_0 G (r := 0) G) ?_
  refine SR.y 5 G G (fun hb => ev_ld1 G ty3 (lkg G hb) (At.d (At.lent hR_5 0 G G))) ?_
  refine SR.y 6 G G (fun _ => ev_fa G fo29_3 G (r := 5) G) ?_
  refine SR.y 7 G G (fun hb => ev_ld1 G ty25 (lkg G hb) (At.d (At.lent hR_5 2 G G))) ?_
  refine SR.y 8 G G (fun hb => ev_len G underlying25 (lkg G hb)) ?_
  refine SR.y 9 G G (fun hb => ev_cmp G (lkg G hb) (lkg G hb) G) ?_
  refine SR.z 10 G G (ev_or G G G G) ?_
  refine SR.m 11 G G G G ?_
  refine SR.y 12 G G (fun _ => ev_mv G G) ?_
  refine SR.y 13 G G (fun hb => ev_cmp G (lkg G hb) G G) ?_
  refine SR.y 14 G G (fun hb => ev_mv G (lkg G hb)) ?_
  refine SR.ggtake (b1 := ((decide (((gt l i).veh) < 0)) || (decide (((gt l i).veh) ≥ (p.vehs.length : Int))))) (b := (decide (i > 0))) 15 cb_ft G kR kR kR G (fun _ _ _ _ h => h) G G G G G (fun hb1 _ => ev_fa G fo54_0 G (r := 0) G) ?_
  refine SR.ggtake (b1 := ((decide (((gt l i).veh) < 0)) || (decide (((gt l i).veh) ≥ (p.vehs.length : Int))))) (b := (decide (i > 0))) 16 cb_ft G kR kR kR G (fun _ _ _ _ h => h) G G G G G (fun hb1 hb => ev_ld1 G ty3 (lkg G hb) (At.d (At.lent hR_5 0 G G))) ?_
  refine SR.ggtake (b1 := ((decide (((gt l i).veh) < 0)) || (decide (((gt l i).veh) ≥ (p.vehs.length : Int))))) (b := (decide (i > 0))) 17 cb_ft G kR kR kR G (fun _ _ _ _ h => h) G G G G G (fun hb1 _ => ev_fa G fo34_0 G (r := 0) G) ?_
  refine SR.ggtake (b1 := ((decide (((gt l i).veh) < 0)) || (decide (((gt l i).veh) ≥ (p.vehs.length : Int))))) (b := (decide (i > 0))) 18 cb_ft G kR kR kR G (fun _ _ _ _ h => h) G G G G G (fun hb1 hb => ev_ld1 G ty32 (lkg G hb) (At.d (At.lent hR_5 1 G G))) ?_
  refine SR.ggtake (b1 := ((decide (((gt l i).veh) < 0)) || (decide (((gt l i).veh) ≥ (p.vehs.length : Int))))) (b := (decide (i > 0))) 19 cb_ft G kR kR kR G (fun _ _ _ _ h => h) G G G G G (fun hb1 _ => ev_mv G G) ?_
  refine SR.ggtake (b1 := ((decide (((gt l i).veh) < 0)) || (decide (((gt l i).veh) ≥ (p.vehs.length : Int))))) (b := (decide (i > 0))) 20 cb_ft G kR kR kR G (fun _ _ _ _ h => h) G G G G G (fun hb1 hb => have hp := bT (bA (bN (bO bD bD)) bD) hb; ev_sub G (lkg G hb) G (r := (i - 1)) G (by have _h := hp; omega) (by have _h := hp; omega)) ?_
  refine SR.ggtake (b1 := ((decide (((gt l i).veh) < 0)) || (decide (((gt l i).veh) ≥ (p.vehs.length : Int))))) (b := (decide (i > 0))) 21 cb_ft G kR kR kR G (fun _ _ _ _ h => h) G G G G G (fun hb1 hb => have hp := bT (bA (bN (bO bD bD)) bD) hb; ev_ix G underlying32 ty54 (lkg G hb) (lkg G hb) (by have _h := hp; omega) (by have _h := hp; omega) (fun _ _ => Fr.adr (i := (i - 1)) (Fr.ext hA hx_5) (by have _h := hp; omega) (by have _h := hp; omega))) ?_
  refine SR.ggtake (b1 := ((decide (((gt l i).veh) < 0)) || (decide (((gt l i).veh) ≥ (p.vehs.length : Int))))) (b := (decide (i > 0))) 22 cb_ft G kR kR kR G (fun _ _ _ _ h => h) G G G G G (fun hb1 hb => ev_fa G fo54_0 (lkg G hb) (r := ao A + ((i - 1)).toNat * 2) G) ?_
  refine SR.ggtake (b1 := ((decide (((gt l i).veh) < 0)) || (decide (((gt l i).veh) ≥ (p.vehs.length : Int))))) (b := (decide (i > 0))) 23 cb_ft G kR kR kR G (fun _ _ _ _ h => h) G G G G G (fun hb1 hb => have hp := bT (bA (bN (bO bD bD)) bD) hb; ev_ld1 G ty3 (lkg G hb) (At.elem1 (At.d (Fr.el (i := (i - 1)) (Fr.ext hA hx_5) (by have _h := hp; omega) (by have _h := hp; omega))) 0 G)) ?_
  refine SR.ggtake (b1 := ((decide (((gt l i).veh) < 0)) || (decide (((gt l i).veh) ≥ (p.vehs.length : Int))))) (b := (decide (i > 0))) 24 cb_ft G kR kR kR G (fun _ _ _ _ h => h) G G G G G (fun hb1 hb => ev_cmp G (lkg G hb) (lkg G hb) G) ?_
  refine SR.y 25 G G (fun hb => ev_and G (lkg G hb) (lkgn G cb_ft hb) G) ?_
  refine SR.z 26 G G (ev_or G G G G) ?_
  refine SR.fin kR hl_5 hx_5 hR_5 .n ?_
  refine SQ.go idQ ?_
  refine .condI G (bO (bO bD bD) (bA bD bD)) (fun h6 => ?_) (fun h6 => ?_)
  ·
   exfalso; omega
  refine .skipgo idQ (.seq (.seq (.region (.f fo54_1 1 G G G G (.l ty52 0 G G G G G (.g underlying52 G G G ?_))))))
  refine .e G G G G G (.go idQ (.condI G bE (fun h7 => ?_) (fun h7 => ?_)))
  ·
   exfalso; omega
  refine .skipgo idQ (.seq (.region (.d 2 ty29 G G G G (.f fo54_0 0 G G G G (.l ty3 0 G G G G G ?_)))))
  refine .v (ev_fa rfl fo54_1 rfl (r := 1) rfl) rfl (.v (ev_ld1 rfl ty52 rfl (At.own1 0 rfl rfl)) rfl (.cons (st_call00 rfl rfl rfl rfl hbd25 rfl .n (rfit_ p ((gt l i).veh) ((gt l i).rA) ((gt l i).rc) ((gt l i).vis) _ _ (hRT i) hPB oO lO) (by intro v C h; obtain ⟨_, _, _, _, rfl, rfl⟩ := h; rfl) (fun v_q12 q12 => ?_))))
  obtain ⟨vh8, sA9, sn10, sc11, rfl, -⟩ := q12
  refine .m G G G (.x G G G G (.x G G G G (.cons (st_alloc G G G G zf86 (fun b13 => ?_)))))
  refine .cons (st_storea (l' := [.int .i64 vh8, .slice sA9 sn10 sc11, .int .i64 ((fitV p ((gt l i).veh) ((gt l i).vis)).time), .int .i64 ((fitV p ((gt l i).veh) ((gt l i).vis)).dist), .int .i64 ((fitV p ((gt l i).veh) ((gt l i).vis)).wait), .int .i64 ((fitV p ((gt l i).veh) ((gt l i).vis)).serv), .int .i64 ((fitV p ((gt l i).veh) ((gt l i).vis)).cost)]) G G G ty86 G G G .h G G ?_)
  refine .a G G G (.go idQ (.seq (.seq (.region (.m G G G (.e G G G G G ?_))))))
  refine .go idQ (.condI G bNE (fun h14 => ?_) (fun h14 => ?_))
  ·
   exfalso; omega
  refine .skipgo idQ (.seq ?_)
  have hRTi : RTF S wf ((l.take (i).toNat).drop 0) := hRT.sub (fun x_ hx_ => List.mem_of_mem_take hx_)
  have hvt : ∀ i_ : Int, (gt ((l.take (i).toNat).drop 0) i_).vis.length ≤ 1000 := vis_sub (fun x_ hx_ => List.mem_of_mem_take hx_) hvs (by decide)
  refine .region (.f fo34_0 0 G G G G (.l ty32 2 G G G G G (.m G G G ?_)))
  refine .v (ev_slc G underlying32 ty54 G .n (.s G oO) oO oO) G (.v (ev_any (v := .agg #[.slice (cutA A c 0 2) (((i).toNat) - 0) (c - 0)]) G kR (fun _ => by kernel_rfl)) G (.cons (st_alloc G G G G zf34 (fun b15 => (.cons (st_storea (l' := [.slice (cutA A c 0 2) (((i).toNat) - 0) (c - 0)]) G G G ty34 G G G .h G G ?_))))))
  refine .go idQ (.seq (.region (.a G G G (.go idQ (.block (.loop (X := Int) (fun j => 0 ≤ j ∧ j ≤ ((gt l i).vis.length : Int) ∧ True) (fun j => [(2, .pointer (some ⟨b1, 0, none⟩)), (3, .pointer (some ⟨b2, 0, none⟩)), (6, .int .i64 i), (7, .pointer (some ⟨b4, 0, none⟩)), (10, .pointer (some ⟨b15, 0, none⟩)), (11, .int .i64 j)]) (fun j => [cel b15 [.slice (cutA A c 0 2) (((i).toNat) - 0) (c - 0)] 34, cel b13 [.int .i64 vh8, .slice sA9 sn10 sc11, .int .i64 ((fitV p ((gt l i).veh) ((gt l i).vis)).time), .int .i64 ((fitV p ((gt l i).veh) ((gt l i).vis)).dist), .int .i64 ((fitV p ((gt l i).veh) ((gt l i).vis)).wait), .int .i64 ((fitV p ((gt l i).veh) ((gt l i).vis)).serv), .int .i64 ((fitV p ((gt l i).veh) ((gt l i).vis)).cost)] 86, cel b4 [.int .i64 ((gt l i).veh), .slice ((gt l i).rA) ((gt l i).vis.length) ((gt l i).rc)] 54, cel b2 [.slice A l.length c] 34, cel b1 (cPB p) 29]) (fun _ => S) (fun _ => wf) (fun j => (((gt l i).vis.length : Int) - j).toNat) (fun a_ w_ hs_ hw_ => ⟨0, (by (try dsimp only); exact ⟨oO, oO, trivial⟩), hs_.mono (Sub.get (.c4 G G G G (.c G (.c G .n)))), hw_.keep (.d (.d (.c .h .n)))⟩) (fun j ⟨r_0, r_1, r_2⟩ => ?_)))))))
  try dsimp only
  refine .seq (.seq (.region (.m G G G (.f fo54_1 1 G G G G (.l ty52 2 G G G G G ?_)))))
  refine .g underlying52 G G G (.e G G G G G (.go idQ (.condI G bD (fun h16 => ?_) (fun h16 => ?_))))
  ·
   refine .skipgo idQ (.seq (.block (.seq ?_)))
   refine SC.draw mo [] [] .n (fun _ _ _ => sc0) (fun wf_17 hl_17 hx_17 hR_17 => ?_)
   refine SR.z 0 G G (ev_lda (cs := [.slice (cutA A c 0 2) (((i).toNat) - 0) (c - 0)]) G G (At.d (At.lent hR_17 0 G G)) ty34) ?_
   refine SR.z 1 G G (ev_fa G fo54_1 G (r := 1) G) ?_
   refine SR.z 2 G G (ev_ld1 G ty52 G (At.d (At.lent hR_17 2 G G))) ?_
   refine SR.m 3 G G G G ?_
   refine SR.z 4 G G (ev_ix G underlying52 ty92 G G oO oO (fun _ _ => Fr.adr (i := j) (((hRT).ext hx_17) i) oO oO)) ?_
   refine SR.z 5 G G (ev_lda G G (At.d (Fr.el (i := j) (((hRT).ext hx_17) i) oO oO)) ty92) ?_
   refine SR.o 6 G (st_callk G G G G hbd26 G .n (rhas_ (cutA A c 0 2) (((i).toNat) - 0) (c - 0) ((l.take (i).toNat).drop 0) (gt ((gt l i).vis) j) _ _ (Fr.ext (Fr.view hA 0 (i).toNat 2 G oO) hx_17) ((hRTi).ext hx_17) lO hvt) ⟨tt0, ?_⟩)
   refine SR.fin kR hl_17 hx_17 hR_17 .n ?_
   refine SQ.go idQ ?_
   refine .condI G bD (fun h18 => ?_) (fun h18 => ?_)
   ·
    exfalso; have hq_ := ‹gt (gt l i).vis j ∈ allV (((l.take (i).toNat).drop 0).map rc)›; exact nodup_no hN (i := i) (j := j) oO oO oO oO hq_
   refine .skipgo idQ (.region (.m G G G (.p ((j + 1)) oO oO G G G G G (.a G G G ?_))))
   exact SP.nil (SQ.roundb (X := Int) (x := (j)) (j + 1) (by (try dsimp only); exact ⟨oO, oO, trivial⟩) (by show (_ : Nat) < _; omega) (Sub.get (.c4 G G G G (.c G (.c G .n)))) (kp (.d (.d (.c .h .n)))))
  refine .exit idQ ?_
  refine .region (.m G G G (.p ((i + 1)) oO oO G G G G G (.a G G G ?_)))
  exact SP.nil (SQ.roundb (X := Int) (x := (i)) (i + 1) (by (try dsimp only); exact ⟨oO, oO, trivial⟩) (by show (_ : Nat) < _; omega) (Sub.get (.c G (.c G (.c G .n)))) (kp (.c (.t2 (.t .h)) (.c (.t2 (.t .h)) .n))))
 refine .exit idQ ?_
 refine .seq (.region (.a G G G (.a G G G (.go idQ ?_))))
 exact .ret idQ (ret2 results10 G G .n ⟨G, G⟩)
end Go.Proofs.YtimhdimhdimbjaaGreat.Sx
set_option maxRecDepth 20000
set_option maxHeartbeats 1000000
namespace Go.Proofs.YtimhdimhdimbjaaGreat.Sx.FW
open Go Go.SX Go.Proofs Go.Proofs.Tryz FA FB FC FD FE FF FG FH FJ FK FL FM FP FQ FU
theorem zf41 : (prog.info? 41).bind (fun i => i.zero.map Value.cells) = some (List.toArray [.int .i64 0, .int .i64 0]) := by kernel_rfl
theorem ty41 : ty prog 41 = some (true, 2) := by kernel_rfl
theorem fo41_1 : fo prog 41 1 = some 1 := by kernel_rfl
theorem fo41_0 : fo prog 41 0 = some 0 := by kernel_rfl
end Go.Proofs.YtimhdimhdimbjaaGreat.Sx.FW
namespace Go.Proofs.YtimhdimhdimbjaaGreat.Sx
open Go Go.SX Go.Proofs Go.Proofs.Tryz FA FB FC FD FE FF FG FH FJ FK FL FM FP FQ FU FW
theorem rscore_ (p : PB) (A : Option Addr) (c : Nat) (l : List RT) (S : Nat → Prop) (wf : World) (hA : Fr eRT S wf A l) (hPB : PBF S wf p) (hRT : RTF S wf l) (hL : LawP p) (hls : l.length ≤ 15) (hvs : ∀ i : Int, (gt l i).vis.length ≤ 50) (hS : SolI p (l.map rc)) :
  TR0 prog 11 [.agg (cPB p).toArray, .agg #[.slice A l.length c]] [] S wf (fun v_ C_ => ∃ (va : Int) (ca : Int), (va = (valR p (l.map rc))) ∧ (ca = (cstR p (l.map rc))) ∧ (0 ≤ va ∧ va ≤ 100000) ∧ (-100000000000000000 ≤ ca ∧ ca ≤ 100000000000000000) ∧ v_ = .tuple #[.agg #[.int .i64 va, .int .i64 ca], .int .i64 0] ∧ C_ = []) := by
 have hla := hA.len
 have hlv := hPB.2.2.1.1.len
 refine TR.mk func11 G ntmps11 G G (fun w_ => ?_)
 refine .seq (.region (.cons (st_boxa G G G G G (fun b1 => (.cons (st_boxa G G G G G (fun b2 => (.cons (st_alloc G G G G zf41 (fun b3 => ?_))))))))))
 refine .a G G G (.go idQ (.seq (.region (.v (ev_any (v := .agg #[.int .i64 0, .int .i64 0]) G kR (fun _ => by kernel_rfl)) G (.cons (st_alloc G G G G zf41 (fun b4 => ?_)))))))
 refine .cons (st_storea (l' := [.int .i64 0, .int .i64 0]) G G G ty41 G G G .h G G ?_)
 refine .go idQ (.seq (.seq (.region (.a G G G (.go idQ (.block (.loop (X := Int × Int × Int) (fun ⟨i, va0, ca0⟩ => 0 ≤ i ∧ i ≤ (l.length : Int) ∧ va0 = valR p ((l.take i.toNat).map rc) ∧ ca0 = cstR p ((l.take i.toNat).map rc) ∧ (0 ≤ va0 ∧ va0 ≤ 5000 * i) ∧ (-(4100000000000000 * i) ≤ ca0 ∧ ca0 ≤ 4100000000000000 * i)) (fun ⟨i, va0, ca0⟩ => [(2, .pointer (some ⟨b1, 0, none⟩)), (3, .pointer (some ⟨b2, 0, none⟩)), (4, .pointer (some ⟨b3, 0, none⟩)), (6, .pointer (some ⟨b4, 0, none⟩)), (7, .int .i64 i)]) (fun ⟨i, va0, ca0⟩ => [cel b4 [.int .i64 va0, .int .i64 ca0] 41, cel b3 [.int .i64 0, .int .i64 0] 41, cel b2 [.slice A l.length c] 34, cel b1 (cPB p) 29]) (fun _ => S) (fun _ => wf) (fun ⟨i, va0, ca0⟩ => ((l.length : Int) - i).toNat) (fun a_ w_ hs_ hw_ => ⟨⟨0, 0, 0⟩, (by (try dsimp only); exact ⟨oO, oO, G, G, oO, oO⟩), hs_.mono (Sub.get (.c4 G G G G (.c G .n))), hw_.keep (.d (.d .n))⟩) (fun ⟨i, va0, ca0⟩ ⟨q_0, q_1, q_2, q_3, q_4, q_5⟩ => ?_))))))))
 try dsimp only
 refine .seq (.seq (.region (.m G G G (.f fo34_0 0 G G G G (.l ty32 2 G G G G G ?_)))))
 refine .g underlying32 G G G (.e G G G G G (.go idQ (.condI G bD (fun h5 => ?_) (fun h5 => ?_))))
 ·
  refine .skipgo idQ (.seq (.block (.seq ?_)))
  obtain ⟨hv1, hv2, hv3, hv4⟩ := sol_at hS (i := i) oO oO
  have hvi := hvs i
  have hfc := fit_cost5 hL (k := (gt l i).veh) (l := (gt l i).vis) oO
  refine SC.draw mo [] [] .n (fun _ _ _ => sc0) (fun wf_6 hl_6 hx_6 hR_6 => ?_)
  refine SR.cutx (X := Nat × Int × (Option Addr) × Nat × Nat) (fun (yb7, yv8, ys9, ys10, ys11) => ([(2, .pointer (some ⟨b1, 0, none⟩)), (3, .pointer (some ⟨b2, 0, none⟩)), (4, .pointer (some ⟨b3, 0, none⟩)), (6, .pointer (some ⟨b4, 0, none⟩)), (7, .int .i64 i), (21, .bool (decide (i < (l.length : Int)))), (8, .pointer (some ⟨yb7, 0, none⟩)), (9, .int .i64 ((fitV p ((gt l i).veh) ((gt l i).vis)).e))], [cel yb7 [.int .i64 yv8, .slice ys9 ys10 ys11, .int .i64 ((fitV p ((gt l i).veh) ((gt l i).vis)).time), .int .i64 ((fitV p ((gt l i).veh) ((gt l i).vis)).dist), .int .i64 ((fitV p ((gt l i).veh) ((gt l i).vis)).wait), .int .i64 ((fitV p ((gt l i).veh) ((gt l i).vis)).serv), .int .i64 ((fitV p ((gt l i).veh) ((gt l i).vis)).cost)] 86, cel b4 [.int .i64 va0, .int .i64 ca0] 41, cel b3 [.int .i64 0, .int .i64 0] 41, cel b2 [.slice A l.length c] 34, cel b1 (cPB p) 29])) S wf (fun ⟨yb7, yv8, ys9, ys10, ys11⟩ => ?_) (fun key12 => ?_)
  ·
   try dsimp only
   refine SQ.go idQ ?_
   refine .seq (.seq (.region (.m G G G (.e G G G G G (.go idQ ?_)))))
   refine .condI G bNE (fun h13 => ?_) (fun h13 => ?_)
   ·
    exfalso; omega
   refine .skipgo idQ (.seq (.region (.f fo41_1 1 G G G G (.l ty3 1 G G G G G (.f fo86_6 6 G G G G ?_)))))
   refine .l ty3 0 G G G G G (.v (ev_add G G G (r := (ca0 + ((fitV p ((gt l i).veh) ((gt l i).vis)).cost))) G oO oO) G (.f fo41_1 1 G G G G (.cons (st_store1 G G G ty3 G G G (.t .h) (.t .h) ?_))))
   refine .go idQ (.seq (.region (.a G G G (.go idQ (.block (.loop (X := Int × Int) (fun ⟨j, va2⟩ => 0 ≤ j ∧ j ≤ ((gt l i).vis.length : Int) ∧ va2 = va0 + isum (valV p) ((gt l i).vis.take j.toNat) ∧ (0 ≤ va2 ∧ va2 ≤ 5000 * i + 100 * j)) (fun ⟨j, va2⟩ => [(2, .pointer (some ⟨b1, 0, none⟩)), (3, .pointer (some ⟨b2, 0, none⟩)), (4, .pointer (some ⟨b3, 0, none⟩)), (6, .pointer (some ⟨b4, 0, none⟩)), (7, .int .i64 i), (10, .int .i64 j)]) (fun ⟨j, va2⟩ => [cel b4 [.int .i64 va2, .int .i64 (ca0 + ((fitV p ((gt l i).veh) ((gt l i).vis)).cost))] 41, cel yb7 [.int .i64 yv8, .slice ys9 ys10 ys11, .int .i64 ((fitV p ((gt l i).veh) ((gt l i).vis)).time), .int .i64 ((fitV p ((gt l i).veh) ((gt l i).vis)).dist), .int .i64 ((fitV p ((gt l i).veh) ((gt l i).vis)).wait), .int .i64 ((fitV p ((gt l i).veh) ((gt l i).vis)).serv), .int .i64 ((fitV p ((gt l i).veh) ((gt l i).vis)).cost)] 86, cel b3 [.int .i64 0, .int .i64 0] 41, cel b2 [.slice A l.length c] 34, cel b1 (cPB p) 29]) (fun _ => S) (fun _ => wf) (fun ⟨j, va2⟩ => (((gt l i).vis.length : Int) - j).toNat) (fun a_ w_ hs_ hw_ => ⟨⟨0, va0⟩, (by (try dsimp only); exact ⟨oO, oO, (by simp [isum]), oO⟩), hs_.mono (Sub.get (.c4 G G G G (.c G (.c G .n)))), hw_.keep (.d (.d (.c .h .n)))⟩) (fun ⟨j, va2⟩ ⟨r_0, r_1, r_2, r_3⟩ => ?_)))))))
   try dsimp only
   refine .seq (.seq (.region (.m G G G (.f fo34_0 0 G G G G (.l ty32 3 G G G G G ?_)))))
   refine .m G G G (.v (ev_ix G underlying32 ty54 G G oO oO (fun _ _ => Fr.adr (i := i) hA oO oO)) G (.f fo54_1 (ao A + (i).toNat * 2 + 1) G G G G (.v (ev_ld1 G ty52 G (At.elem1 (At.w (Fr.el (i := i) hA oO oO)) 1 G)) G ?_)))
   refine .g underlying52 G G G (.e G G G G G (.go idQ (.condI G bD (fun h14 => ?_) (fun h14 => ?_))))
   ·
    refine .skipgo idQ (.seq (.block (.seq (.region (.f fo34_0 0 G G G G (.l ty32 3 G G G G G (.m G G G ?_)))))))
    refine .v (ev_ix G underlying32 ty54 G G oO oO (fun _ _ => Fr.adr (i := i) hA oO oO)) G (.f fo54_1 (ao A + (i).toNat * 2 + 1) G G G G (.v (ev_ld1 G ty52 G (At.elem1 (At.w (Fr.el (i := i) hA oO oO)) 1 G)) G (.m G G G ?_)))
    refine .v (ev_ix G underlying52 ty92 G G oO oO (fun _ _ => Fr.adr (i := j) (hRT i) oO oO)) G (.v (ev_lda G G (At.w (Fr.el (i := j) (hRT i) oO oO)) ty92) G (.cons (st_alloc G G G G zf92 (fun b15 => (.cons (st_storea (l' := [.int .i64 ((gt ((gt l i).vis) j).kind), .int .i64 ((gt ((gt l i).vis) j).item)]) G G G ty92 G G G .h G G ?_))))))
    refine .go idQ (.seq (.region (.d 0 ty92 G G G G (.cons (st_callk G G G G hbd27 G .n (rof_ (gt ((gt l i).vis) j) _ _) (.m G G G ?_))))))
    refine .x G G G G (.x G G G G (.cons (st_alloc G G G G zf61 (fun b16 => (.cons (st_storea (l' := [.bool ((taskV (gt ((gt l i).vis) j)).ship), .int .i64 ((taskV (gt ((gt l i).vis) j)).item)]) G G G ty61 G G G .h G G ?_))))))
    refine .a G G G (.go idQ (.seq (.region (.f fo92_0 0 G G G G (.l ty90 1 G G G G G ?_)))))
    refine .e G G G G G (.go idQ (.condI G bNE (fun h17 => ?_) (fun h17 => ?_)))
    ·
     refine .seq (.region (.d 6 ty29 G G G G (.d 0 ty61 G G G G (.cons (st_callk G G G G hbd28 G .n (facts_ p (taskV (gt ((gt l i).vis) j)) _ _ hPB) ?_)))))
     refine .m G G G (.x G G G G (.x G G G G (.a G G G ?_)))
     refine .a G G G (.go idQ ?_)
     have hpr := prio_rng hL (taskV (gt (gt l i).vis j))
     refine .region (.f fo41_0 0 G G G G (.l ty3 2 G G G G G (.m G G G ?_)))
     refine .v (ev_add G G G (r := (va2 + (prioF p (taskV (gt ((gt l i).vis) j))))) G oO oO) G (.f fo41_0 0 G G G G (.cons (st_store1 G G G ty3 G G G (.t2 .h) .h (.go idQ (.region ?_)))))
     refine .m G G G (.p ((j + 1)) oO oO G G G G G (.a G G G ?_))
     exact SP.nil (SQ.roundb (X := Int × Int) (x := (j, va2)) ⟨(j + 1), (va2 + (prioF p (taskV (gt ((gt l i).vis) j))))⟩ (by (try dsimp only); exact ⟨oO, oO, (by rw [val_in oO oO, valV_ok (by assumption)]; omega), oO⟩) dO (Sub.get (.c4 G G G G (.c G (.c G .n)))) (kp (.c .h (.c (.t2 .h) (.c (.t2 .h) (.c (.t2 .h) (.c (.t2 .h) .n)))))))
    refine .skipgo idQ (.region (.m G G G (.p ((j + 1)) oO oO G G G G G (.a G G G ?_))))
    exact SP.nil (SQ.roundb (X := Int × Int) (x := (j, va2)) ⟨(j + 1), va2⟩ (by (try dsimp only); exact ⟨oO, oO, (by rw [val_in oO oO, valV_no (by assumption)]; omega), oO⟩) dO (Sub.get (.c4 G G G G (.c G (.c G .n)))) (kp (.c (.t2 .h) (.c (.t2 .h) (.c (.t2 .h) (.c (.t2 .h) (.c (.t2 .h) .n)))))))
   refine .exit idQ ?_
   refine .region (.m G G G (.p ((i + 1)) oO oO G G G G G (.a G G G ?_)))
   exact SP.nil (SQ.roundb (X := Int × Int × Int) (x := (i, va0, ca0)) ⟨(i + 1), va2, (ca0 + ((fitV p ((gt l i).veh) ((gt l i).vis)).cost))⟩ (by (try dsimp only); exact ⟨oO, oO, (by rw [val_take oO oO, ← q_2, show (gt l i).vis = (gt l i).vis.take j.toNat from (List.take_of_length_le oO).symm]; omega), (by rw [cst_take oO oO]; omega), oO, oO⟩) dO (Sub.get (.c4 G G G G (.c G .n))) (kp (.c .h (.c (.t .h) (.c (.t .h) (.c (.t .h) .n))))))
  refine SR.join (X := Nat × Int × (Option Addr) × Nat × Nat) (fun (zb18, zv19, zs20, zs21, zs22) => ([(2, .pointer (some ⟨b1, 0, none⟩)), (3, .pointer (some ⟨b2, 0, none⟩)), (4, .pointer (some ⟨b3, 0, none⟩)), (6, .pointer (some ⟨b4, 0, none⟩)), (7, .int .i64 i), (21, .bool (decide (i < (l.length : Int)))), (39, .agg #[.int .i64 zv19, .slice zs20 zs21 zs22, .int .i64 ((fitV p ((gt l i).veh) ((gt l i).vis)).time), .int .i64 ((fitV p ((gt l i).veh) ((gt l i).vis)).dist), .int .i64 ((fitV p ((gt l i).veh) ((gt l i).vis)).wait), .int .i64 ((fitV p ((gt l i).veh) ((gt l i).vis)).serv), .int .i64 ((fitV p ((gt l i).veh) ((gt l i).vis)).cost)]), (40, .int .i64 ((fitV p ((gt l i).veh) ((gt l i).vis)).e)), (8, .pointer (some ⟨zb18, 0, none⟩))], [cel zb18 [.int .i64 0, .slice none 0 0, .int .i64 0, .int .i64 0, .int .i64 0, .int .i64 0, .int .i64 0] 86])) 2 #[true, true, true, true, true, true, true, true, true, true, true, true, true, true, true, true, true, true, false, false] (fun ⟨zb18, zv19, zs20, zs21, zs22⟩ => ?_) (fun key23 => ?_)
  ·
   show SR _ _ _ _ _ _ _ _ _ ⟨[(2, .pointer (some ⟨b1, 0, none⟩)), (3, .pointer (some ⟨b2, 0, none⟩)), (4, .pointer (some ⟨b3, 0, none⟩)), (6, .pointer (some ⟨b4, 0, none⟩)), (7, .int .i64 i), (21, .bool (decide (i < (l.length : Int)))), (39, .agg #[.int .i64 zv19, .slice zs20 zs21 zs22, .int .i64 ((fitV p ((gt l i).veh) ((gt l i).vis)).time), .int .i64 ((fitV p ((gt l i).veh) ((gt l i).vis)).dist), .int .i64 ((fitV p ((gt l i).veh) ((gt l i).vis)).wait), .int .i64 ((fitV p ((gt l i).veh) ((gt l i).vis)).serv), .int .i64 ((fitV p ((gt l i).veh) ((gt l i).vis)).cost)]), (40, .int .i64 ((fitV p ((gt l i).veh) ((gt l i).vis)).e)), (8, .pointer (some ⟨zb18, 0, none⟩))], [cel zb18 [.int .i64 0, .slice none 0 0, .int .i64 0, .int .i64 0, .int .i64 0, .int .i64 0, .int .i64 0] 86], _, _⟩
   refine SR.o 18 G (st_storea (l' := [.int .i64 zv19, .slice zs20 zs21 zs22, .int .i64 ((fitV p ((gt l i).veh) ((gt l i).vis)).time), .int .i64 ((fitV p ((gt l i).veh) ((gt l i).vis)).dist), .int .i64 ((fitV p ((gt l i).veh) ((gt l i).vis)).wait), .int .i64 ((fitV p ((gt l i).veh) ((gt l i).vis)).serv), .int .i64 ((fitV p ((gt l i).veh) ((gt l i).vis)).cost)]) G G G ty86 G G G .h G G ⟨tt0, ?_⟩)
   refine SR.z 19 G G (ev_as G G) ?_
   refine SR.fin kR hl_6 hx_6 hR_6 (.c .n) ?_
   exact SQ.weak (key12 (zb18, zv19, zs20, zs21, zs22)) (Sub.get (.c4 G G G G (.c4 G G G G .n))) (kp (.d (.d (.c .h .n))))
  refine SR.z 0 G G (ev_lda (cs := (cPB p)) G G (At.d (At.lent hR_6 3 G G)) ty29) ?_
  refine SR.z 1 G G (ev_fa G fo34_0 G (r := 0) G) ?_
  refine SR.z 2 G G (ev_ld1 G ty32 G (At.d (At.lent hR_6 2 G G))) ?_
  refine SR.m 3 G G G G ?_
  refine SR.z 4 G G (ev_ix G underlying32 ty54 G G oO oO (fun _ _ => Fr.adr (i := i) (Fr.ext hA hx_6) oO oO)) ?_
  refine SR.z 5 G G (ev_fa G fo54_0 G (r := ao A + (i).toNat * 2) G) ?_
  refine SR.z 6 G G (ev_ld1 G ty3 G (At.elem1 (At.d (Fr.el (i := i) (Fr.ext hA hx_6) oO oO)) 0 G)) ?_
  refine SR.z 7 G G (ev_fa G fo34_0 G (r := 0) G) ?_
  refine SR.z 8 G G (ev_ld1 G ty32 G (At.d (At.lent hR_6 2 G G))) ?_
  refine SR.m 9 G G G G ?_
  refine SR.z 10 G G (ev_ix G underlying32 ty54 G G oO oO (fun _ _ => Fr.adr (i := i) (Fr.ext hA hx_6) oO oO)) ?_
  refine SR.z 11 G G (ev_fa G fo54_1 G (r := ao A + (i).toNat * 2 + 1) G) ?_
  refine SR.z 12 G G (ev_ld1 G ty52 G (At.elem1 (At.d (Fr.el (i := i) (Fr.ext hA hx_6) oO oO)) 1 G)) ?_
  refine SR.two (i := 13) (j := 17) kR ⟨_, G, ?_⟩ ⟨_, G, ?_⟩
  ·
   refine st_call00 rfl rfl rfl rfl hbd25 rfl .n (rfit_ p ((gt l i).veh) ((gt l i).rA) ((gt l i).rc) ((gt l i).vis) _ _ (((hRT).ext hx_6) i) ((hPB).ext hx_6) oO lO) (by intro v C h; obtain ⟨_, _, _, _, rfl, rfl⟩ := h; rfl) (fun v_q28 q28 => ⟨tt0, ?_⟩)
   obtain ⟨vh24, sA25, sn26, sc27, rfl, -⟩ := q28
   refine SR.m 14 G G G G ?_
   refine SR.z 15 G G (ev_ext G G G) ?_
   refine SR.z 16 G G (ev_ext G G G) ?_
   refine SR.o 17 G (st_alloc G G G G zf86 (fun b29 => ⟨tt0, ?_⟩))
   exact SR.weakj (key23 (b29, vh24, sA25, sn26, sc27)) kR (Sub.get (.c4 G G G G (.c4 G G G G (.c G .n)))) (kp (.c .h .n))
  refine st_alloc G G G G zf86 (fun b30 => ⟨tt0, ?_⟩)
  refine SR.o 13 rfl (st_call00 rfl rfl rfl rfl hbd25 rfl .n (rfit_ p ((gt l i).veh) ((gt l i).rA) ((gt l i).rc) ((gt l i).vis) _ _ (((hRT).ext hx_6) i) ((hPB).ext hx_6) oO lO) (by intro v C h; obtain ⟨_, _, _, _, rfl, rfl⟩ := h; rfl) (fun v_q35 q35 => ⟨tt0, ?_⟩))
  obtain ⟨vh31, sA32, sn33, sc34, rfl, -⟩ := q35
  refine SR.m 14 G G G G ?_
  refine SR.z 15 G G (ev_ext G G G) ?_
  refine SR.z 16 G G (ev_ext G G G) ?_
  exact SR.weakj (key23 (b30, vh31, sA32, sn33, sc34)) kR (Sub.get (.c4 G G G G (.c4 G G G G (.c G .n)))) (kp (.c .h .n))
 refine .exit idQ ?_
 refine .seq (.region (.d 0 ty41 G G G G (.cons (st_storea (l' := [.int .i64 va0, .int .i64 ca0]) G G G ty41 G G G (.t .h) G G (.a G G G ?_)))))
 refine .go idQ (.ret idQ (retv2 results11 (.c 0 G G ty41) (.t G) .n ⟨va0, ca0, (by rw [q_2, List.take_of_length_le oO]), (by rw [q_3, List.take_of_length_le oO]), oO, oO, G, G⟩))
end Go.Proofs.YtimhdimhdimbjaaGreat.Sx
set_option maxRecDepth 20000
set_option maxHeartbeats 1000000
namespace Go.Proofs.YtimhdimhdimbjaaGreat.Sx.FEA
open Go Go.SX Go.Proofs Go.Proofs.Tryz FA FB FC FD FE FF FG FH FJ FK FL FM FP FQ FU FW
theorem fo123_3 : fo prog 123 3 = some 20 := by kernel_rfl
theorem fo123_2 : fo prog 123 2 = some 19 := by kernel_rfl
theorem fo123_0 : fo prog 123 0 = some 0 := by kernel_rfl
theorem fo132_0 : fo prog 132 0 = some 0 := by kernel_rfl
theorem fo130_2 : fo prog 130 2 = some 2 := by kernel_rfl
theorem fo123_1 : fo prog 123 1 = some 8 := by kernel_rfl
theorem fo130_0 : fo prog 130 0 = some 0 := by kernel_rfl
theorem fo130_1 : fo prog 130 1 = some 1 := by kernel_rfl
theorem fo132_1 : fo prog 132 1 = some 3 := by kernel_rfl
theorem fo132_2 : fo prog 132 2 = some 4 := by kernel_rfl
theorem fo123_5 : fo prog 123 5 = some 22 := by kernel_rfl
theorem fo123_6 : fo prog 123 6 = some 23 := by kernel_rfl
theorem fo132_3 : fo prog 132 3 = some 5 := by kernel_rfl
end Go.Proofs.YtimhdimhdimbjaaGreat.Sx.FEA
namespace Go.Proofs.YtimhdimhdimbjaaGreat.Sx
open Go Go.SX Go.Proofs Go.Proofs.Tryz FA FB FC FD FE FF FG FH FJ FK FL FM FP FQ FU FW FEA
theorem aboard_ (p : PB) (v : VH) (b : Nat) (aA : Option Addr) (ac : Nat) (all : List Vis) (fA : Option Addr) (fc : Nat) (fst : List Int) (mb_ : Nat) (B : VL) (c : Int) (dn : Int) (S : Nat → Prop) (wf : World) (hA : Fr eVis S wf aA all) (hF : Fr eZ S wf fA fst) (hPB : PBF S wf p) (hVH : VHF S wf v) (hO : (CX.mk p v all fst).Ok) (hdn : 0 ≤ dn ∧ dn < 4096) (hfo : lOk p 100000000 fst) :
  TR0 prog 83 [.pointer (some ⟨b, 0, none⟩), .int .i64 dn] [cel b (cSL p v aA all ac fA fst fc mb_ B c) 123] S wf (fun v_ C_ => ∃ (ow : Bool) (A2 : Option Addr) (c2 : Nat), (ow = false → Fr eZ S wf A2 (abF p dn all 0 fst)) ∧ (((abF p dn all 0 fst).length : Int) = p.dims) ∧ v_ = .slice A2 ((abF p dn all 0 fst).length) c2 ∧ C_ = [cel b (cSL p v aA all ac fA fst fc mb_ B c) 123, mb ow (rw_ eZ 3 (.slice A2 ((abF p dn all 0 fst).length) c2) (abF p dn all 0 fst))]) := by
 have hla := hA.len
 have hL : LawP p := hO.law
 have hn12 : all.length ≤ 12 := hO.len
 have hlj := hPB.2.2.2.1.1.len
 have hls := hPB.2.2.2.2.1.len
 have hdn0 := hdn.1
 have hdn1 : dn < 4611686018427387904 := by omega
 refine TR.mk func83 G ntmps83 G G (fun w_ => ?_)
 refine .seq (.region (.a G G G (.go idQ (.seq (.region (.m G G G ?_))))))
 refine .v (ev_nil G G) G (.f fo123_3 20 G G G G (.l ty22 0 G G G G G (.a G G G ?_)))
 refine .go idQ (.seq (.seq ?_))
 refine SC.mbF (rw_ eZ 3 (.slice fA fst.length fc) fst) ?_
 refine .region (.m G G G (.v (ev_nil G G) G (.f fo123_2 19 G G G G ?_)))
 refine .l ty52 1 G G G G G (.g underlying52 G G G (.m G G G (.go idQ (.block ?_))))
 refine .loop (X := Int × Bool × (Option Addr) × Nat × (List Int)) (fun ⟨i, own, nA, nc, a⟩ => 0 ≤ i ∧ i ≤ (all.length : Int) ∧ (abF p dn (all.drop i.toNat) i a = (abF p dn all 0 fst)) ∧ (lOk p (100000000 + 2000000 * i) a) ∧ (own = false → Fr eZ S wf nA a)) (fun ⟨i, own, nA, nc, a⟩ => [(0, .pointer (some ⟨b, 0, none⟩)), (1, .int .i64 dn), (4, .slice none 0 0), (15, .slice aA all.length ac), (16, .int .i64 (all.length : Int)), (17, .int .i64 i), (5, .slice nA a.length nc)]) (fun ⟨i, own, nA, nc, a⟩ => [mb own (rw_ eZ 3 (.slice nA a.length nc) a), cel b (cSL p v aA all ac fA fst fc mb_ B c) 123]) (fun _ => S) (fun _ => wf) (fun ⟨i, own, nA, nc, a⟩ => ((all.length : Int) - i).toNat) (fun a_ w_ hs_ hw_ => ⟨⟨0, false, fA, fc, fst⟩, (by (try dsimp only); exact ⟨by omega, by omega, G, lOk_mono hfo oO, fun _ => hF⟩), hs_.mono (Sub.get (.c4 G G G G (.c G (.c G (.c G .n))))), hw_.keep (.d .n)⟩) (fun ⟨i, own, nA, nc, a⟩ ⟨q_0, q_1, q_2, q_3, q_4⟩ => ?_)
 try dsimp only
 have hal := q_3.1
 have hdm := hL.dims
 refine .seq (.region (.e G G G G G (.go idQ (.seq (.condI G bD (fun h1 => ?_) (fun h1 => ?_))))))
 ·
  refine .skipgo idQ (.seq (.block (.seq (.region (.m G G G (.v (ev_ix G underlying52 ty92 G G oO oO (fun _ _ => Fr.adr (i := i) hA oO oO)) G (.v (ev_lda G G (At.w (Fr.el (i := i) hA oO oO)) ty92) G ?_)))))))
  refine .cons (st_alloc G G G G zf92 (fun b2 => ?_))
  refine .a G G G (.cons (st_storea (l' := [.int .i64 ((gt all i).kind), .int .i64 ((gt all i).item)]) G G G ty92 G G G .h G G (.go idQ (.seq (.seq (.region (.m G G G ?_)))))))
  refine .m G G G (.v (ev_shr (r := (shrI dn i)) G G G oO G) G (.v (ev_band G G G) G (.e G G G G G ?_)))
  refine .go idQ (.condI G bE (fun h3 => ?_) (fun h3 => ?_))
  ·
   refine .exit idQ ?_
   have hbf : bt dn i = false := (bit_0 hdn0 hdn1 oO oO).1 (by assumption)
   refine .region (.p ((i + 1)) oO oO G G G G G (.m G G G ?_))
   exact SP.nil (SQ.roundb (X := Int × Bool × (Option Addr) × Nat × (List Int)) (x := (i, own, nA, nc, a)) ⟨(i + 1), own, nA, nc, a⟩ (by (try dsimp only); exact ⟨by omega, by omega, (by have hq := q_2; rw [drop_gt (x := i) oO oO, abF_cons, if_neg (by rw [hbf]; decide)] at hq; exact hq), lOk_mono q_3 oO, q_4⟩) dO (Sub.get (.c4 G G G G (.c G (.c G (.c G .n))))) (kp (.c (.t .h) (.c (.t .h) .n))))
  refine .skipgo idQ (.seq ?_)
  have hbt : bt dn i = true := by rcases Bool.eq_false_or_eq_true (bt dn i) with h_ | h_ <;> first | exact h_ | exact absurd ((bit_0 hdn0 hdn1 (i := i) oO oO).2 h_) (by assumption)
  have hgi : gt all i ∈ all := gt_in oO oO
  have hsp : isStop p (gt all i) = true := hO.mem _ hgi
  have hkd := is_kind hsp
  refine .region (.f fo92_0 0 G G G G (.l ty90 0 G G G G G (.go idQ (.block (.seq (.region ?_))))))
  refine .e G G G G G (.a G G G (.go idQ (.condI G bE (fun h4 => ?_) (fun h4 => ?_))))
  ·
   refine .seq ?_
   have hin := is_i1 hsp oO
   have hjb := hL.job _ hin.1 hin.2
   refine SC.draw mo [] [] .n (fun _ _ _ => sc0) (fun wf_5 hl_5 hx_5 hR_5 => ?_)
   refine SR.m 0 G G G G ?_
   refine SR.m 1 G G G G ?_
   refine SR.z 2 G G (ev_nil G G) ?_
   refine SR.z 3 G G (ev_fa G fo123_0 G (r := 0) G) ?_
   refine SR.z 4 G G (ev_fa G fo29_4 G (r := 6) G) ?_
   refine SR.z 5 G G (ev_ld1 G ty26 G (At.d (At.lent hR_5 2 G G))) ?_
   refine SR.z 6 G G (ev_fa G fo92_1 G (r := 1) G) ?_
   refine SR.z 7 G G (ev_ld1 G ty3 G (At.d (At.lent hR_5 0 G G))) ?_
   refine SR.z 8 G G (ev_ix G underlying26 ty80 G G oO oO (fun _ _ => Fr.adr (i := (gt all i).item) ((hPB).ext hx_5).2.2.2.1.1 oO oO)) ?_
   refine SR.z 9 G G (ev_fa G fo80_1 G (r := ao p.pjA + ((gt all i).item).toNat * 7 + 3) G) ?_
   refine SR.z 10 G G (ev_ld1 G ty22 G (At.elem1 (At.d (Fr.el (i := (gt all i).item) ((hPB).ext hx_5).2.2.2.1.1 oO oO)) 3 G)) ?_
   refine SR.o 11 G (st_call0 G G G G hbd121 G .n (lsubL nA nc a ((gt p.jobs ((gt all i).item)).jdA) ((gt p.jobs ((gt all i).item)).jdc) ((gt p.jobs ((gt all i).item)).drop) _ _ (Fr.lentm hx_5 hR_5 1 G (by have h_ := q_3.1; have hd_ := hL.dims; omega) q_4) ((((hPB).ext hx_5).2.2.2.1.2 ((gt all i).item)).1) (by have h_ := q_3.1; have := hjb.drop.1; first | omega | (have := hjb.pick.1; rw [subL_len]; omega)) (by have h_ := q_3.1; have hd_ := hL.dims; first | omega | (rw [subL_len]; omega)) (by first | exact bdd_mono q_3.2 oO | exact bdd_mono (lOk_sub q_3 hjb.drop (Int.le_refl _)).2 oO) (by first | exact rng_bdd hjb.drop.2 oO oO | exact rng_bdd hjb.pick.2 oO oO | exact rng_bdd hjb.am.2 oO oO)) (fun v_q7 C_q7 q7 => ⟨tt0, ?_⟩))
   obtain ⟨u6, rfl, rfl⟩ := q7
   show SR _ _ _ _ _ _ _ _ _ ⟨_, _ :: _, _, _⟩
   refine SR.m 12 G G G G ?_
   refine SR.z 13 G G (ev_ext G G G) ?_
   refine SR.z 14 G G (ev_ext G G G) ?_
   refine SR.z 15 G G (ev_as G G) ?_
   refine SR.fin kR hl_5 hx_5 hR_5 (.c .n) ?_
   refine SQ.go idQ ?_
   refine .know (row_len 0 G) (fun hv10 => ?_)
   obtain ⟨A8, c9, rfl, hv10_1, hv10_2⟩ := hv10
   unfold maxLen at hv10_2
   refine SC.draw mo [] [] .n (fun _ _ _ => sc0) (fun wf_11 hl_11 hx_11 hR_11 => ?_)
   refine SR.m 0 G G G G ?_
   refine SR.m 1 G G G G ?_
   refine SR.z 2 G G (ev_nil G G) ?_
   refine SR.z 3 G G (ev_fa G fo123_0 G (r := 0) G) ?_
   refine SR.z 4 G G (ev_fa G fo29_4 G (r := 6) G) ?_
   refine SR.z 5 G G (ev_ld1 G ty26 G (At.d (At.lent hR_11 3 G G))) ?_
   refine SR.z 6 G G (ev_fa G fo92_1 G (r := 1) G) ?_
   refine SR.z 7 G G (ev_ld1 G ty3 G (At.d (At.lent hR_11 1 G G))) ?_
   refine SR.z 8 G G (ev_ix G underlying26 ty80 G G oO oO (fun _ _ => Fr.adr (i := (gt all i).item) ((hPB).ext hx_11).2.2.2.1.1 oO oO)) ?_
   refine SR.z 9 G G (ev_fa G fo80_2 G (r := ao p.pjA + ((gt all i).item).toNat * 7 + 4) G) ?_
   refine SR.z 10 G G (ev_ld1 G ty22 G (At.elem1 (At.d (Fr.el (i := (gt all i).item) ((hPB).ext hx_11).2.2.2.1.1 oO oO)) 4 G)) ?_
   refine SR.o 11 G (st_call0 G G G G hbd53 G .n (laddL A8 c9 (subL a ((gt p.jobs ((gt all i).item)).drop)) ((gt p.jobs ((gt all i).item)).jkA) ((gt p.jobs ((gt all i).item)).jkc) ((gt p.jobs ((gt all i).item)).pick) _ _ (Fr.lent (S := S) hR_11 0 G (by first | ((try simp only [List.length_nil, List.length_cons, List.length_append, List.length_set, List.length_singleton, List.length_take, List.length_drop, List.length_reverse, addL_len, subL_len]) <;> omega) | omega)) ((((hPB).ext hx_11).2.2.2.1.2 ((gt all i).item)).2.1) (by have h_ := q_3.1; have := hjb.drop.1; first | omega | (have := hjb.pick.1; rw [subL_len]; omega)) (by have h_ := q_3.1; have hd_ := hL.dims; first | omega | (rw [subL_len]; omega)) (by first | exact bdd_mono q_3.2 oO | exact bdd_mono (lOk_sub q_3 hjb.drop (Int.le_refl _)).2 oO) (by first | exact rng_bdd hjb.drop.2 oO oO | exact rng_bdd hjb.pick.2 oO oO | exact rng_bdd hjb.am.2 oO oO)) (fun v_q13 C_q13 q13 => ⟨tt0, ?_⟩))
   obtain ⟨u12, rfl, rfl⟩ := q13
   show SR _ _ _ _ _ _ _ _ _ ⟨_, _ :: _, _, _⟩
   refine SR.m 12 G G G G ?_
   refine SR.z 13 G G (ev_ext G G G) ?_
   refine SR.z 14 G G (ev_ext G G G) ?_
   refine SR.z 15 G G (ev_as G G) ?_
   refine SR.fin kR hl_11 hx_11 hR_11 (.c .n) ?_
   refine SQ.go idQ ?_
   refine .know (row_len 0 G) (fun hv16 => ?_)
   obtain ⟨A14, c15, rfl, hv16_1, hv16_2⟩ := hv16
   unfold maxLen at hv16_2
   refine SC.mbT .h ?_
   have hSt := lOk_St (x := gt all i) hL q_3 (k := 100000000 + 2000000 * (i + 1)) oO
   rw [loadSt_1 hsp oO] at hSt
   simp only [dropV, pickV, amV] at hSt
   refine .region (.p ((i + 1)) oO oO G G G G G (.m G G G ?_))
   exact SP.nil (SQ.roundb (X := Int × Bool × (Option Addr) × Nat × (List Int)) (x := (i, own, nA, nc, a)) ⟨(i + 1), true, A14, c15, (addL (subL a ((gt p.jobs ((gt all i).item)).drop)) ((gt p.jobs ((gt all i).item)).pick))⟩ (by (try dsimp only); exact ⟨by omega, by omega, (by have hq := q_2; rw [drop_gt (x := i) oO oO, abF_cons, if_pos hbt, loadSt_1 (hO.mem _ hgi) oO] at hq; exact hq), hSt, (fun h_ => by cases h_)⟩) dO (Sub.get (.c4 G G G G (.c G (.c G (.c G .n))))) (kp (.c .h (.c (.t2 (.t .h)) .n))))
  refine .seq (.region (.e G G G G G (.a G G G (.go idQ ?_))))
  refine .condI G bE (fun h17 => ?_) (fun h17 => ?_)
  ·
   have hin := is_i2 hsp oO
   have hjb := hL.ship _ hin.1 hin.2
   refine SC.draw mo [] [] .n (fun _ _ _ => sc0) (fun wf_18 hl_18 hx_18 hR_18 => ?_)
   refine SR.m 0 G G G G ?_
   refine SR.m 1 G G G G ?_
   refine SR.z 2 G G (ev_nil G G) ?_
   refine SR.z 3 G G (ev_fa G fo123_0 G (r := 0) G) ?_
   refine SR.z 4 G G (ev_fa G fo29_5 G (r := 7) G) ?_
   refine SR.z 5 G G (ev_ld1 G ty27 G (At.d (At.lent hR_18 2 G G))) ?_
   refine SR.z 6 G G (ev_fa G fo92_1 G (r := 1) G) ?_
   refine SR.z 7 G G (ev_ld1 G ty3 G (At.d (At.lent hR_18 0 G G))) ?_
   refine SR.z 8 G G (ev_ix G underlying27 ty83 G G oO oO (fun _ _ => Fr.adr (i := (gt all i).item) ((hPB).ext hx_18).2.2.2.2.1 oO oO)) ?_
   refine SR.z 9 G G (ev_fa G fo83_2 G (r := ao p.psA + ((gt all i).item).toNat * 9 + 6) G) ?_
   refine SR.z 10 G G (ev_ld1 G ty22 G (At.elem1 (At.d (Fr.el (i := (gt all i).item) ((hPB).ext hx_18).2.2.2.2.1 oO oO)) 6 G)) ?_
   refine SR.o 11 G (st_call0 G G G G hbd53 G .n (laddL nA nc a ((gt p.ships ((gt all i).item)).saA) ((gt p.ships ((gt all i).item)).sac) ((gt p.ships ((gt all i).item)).am) _ _ (Fr.lentm hx_18 hR_18 1 G (by have h_ := q_3.1; have hd_ := hL.dims; omega) q_4) ((((hPB).ext hx_18).2.2.2.2.2 ((gt all i).item)).1) (by have h_ := q_3.1; have := hjb.am.1; omega) (by have h_ := q_3.1; have hd_ := hL.dims; first | omega | (rw [subL_len]; omega)) (by first | exact bdd_mono q_3.2 oO | exact bdd_mono (lOk_sub q_3 hjb.drop (Int.le_refl _)).2 oO) (by first | exact rng_bdd hjb.drop.2 oO oO | exact rng_bdd hjb.pick.2 oO oO | exact rng_bdd hjb.am.2 oO oO)) (fun v_q20 C_q20 q20 => ⟨tt0, ?_⟩))
   obtain ⟨u19, rfl, rfl⟩ := q20
   show SR _ _ _ _ _ _ _ _ _ ⟨_, _ :: _, _, _⟩
   refine SR.m 12 G G G G ?_
   refine SR.z 13 G G (ev_ext G G G) ?_
   refine SR.z 14 G G (ev_ext G G G) ?_
   refine SR.z 15 G G (ev_as G G) ?_
   refine SR.fin kR hl_18 hx_18 hR_18 (.c .n) ?_
   refine SQ.go idQ ?_
   refine .know (row_len 0 G) (fun hv23 => ?_)
   obtain ⟨A21, c22, rfl, hv23_1, hv23_2⟩ := hv23
   unfold maxLen at hv23_2
   refine SC.mbT .h ?_
   have hSt := lOk_St (x := gt all i) hL q_3 (k := 100000000 + 2000000 * (i + 1)) oO
   rw [loadSt_2 hsp oO] at hSt
   simp only [dropV, pickV, amV] at hSt
   refine .region (.p ((i + 1)) oO oO G G G G G (.m G G G ?_))
   exact SP.nil (SQ.roundb (X := Int × Bool × (Option Addr) × Nat × (List Int)) (x := (i, own, nA, nc, a)) ⟨(i + 1), true, A21, c22, (addL a ((gt p.ships ((gt all i).item)).am))⟩ (by (try dsimp only); exact ⟨by omega, by omega, (by have hq := q_2; rw [drop_gt (x := i) oO oO, abF_cons, if_pos hbt, loadSt_2 (hO.mem _ hgi) oO] at hq; exact hq), hSt, (fun h_ => by cases h_)⟩) dO (Sub.get (.c4 G G G G (.c G (.c G (.c G .n))))) (kp (.c .h (.c (.t2 .h) .n))))
  refine .seq (.region (.e G G G G G (.a G G G (.go idQ ?_))))
  refine .condI G bE (fun h24 => ?_) (fun h24 => ?_)
  ·
   have hin := is_i2 hsp oO
   have hjb := hL.ship _ hin.1 hin.2
   refine SC.draw mo [] [] .n (fun _ _ _ => sc0) (fun wf_25 hl_25 hx_25 hR_25 => ?_)
   refine SR.m 0 G G G G ?_
   refine SR.m 1 G G G G ?_
   refine SR.z 2 G G (ev_nil G G) ?_
   refine SR.z 3 G G (ev_fa G fo123_0 G (r := 0) G) ?_
   refine SR.z 4 G G (ev_fa G fo29_5 G (r := 7) G) ?_
   refine SR.z 5 G G (ev_ld1 G ty27 G (At.d (At.lent hR_25 2 G G))) ?_
   refine SR.z 6 G G (ev_fa G fo92_1 G (r := 1) G) ?_
   refine SR.z 7 G G (ev_ld1 G ty3 G (At.d (At.lent hR_25 0 G G))) ?_
   refine SR.z 8 G G (ev_ix G underlying27 ty83 G G oO oO (fun _ _ => Fr.adr (i := (gt all i).item) ((hPB).ext hx_25).2.2.2.2.1 oO oO)) ?_
   refine SR.z 9 G G (ev_fa G fo83_2 G (r := ao p.psA + ((gt all i).item).toNat * 9 + 6) G) ?_
   refine SR.z 10 G G (ev_ld1 G ty22 G (At.elem1 (At.d (Fr.el (i := (gt all i).item) ((hPB).ext hx_25).2.2.2.2.1 oO oO)) 6 G)) ?_
   refine SR.o 11 G (st_call0 G G G G hbd121 G .n (lsubL nA nc a ((gt p.ships ((gt all i).item)).saA) ((gt p.ships ((gt all i).item)).sac) ((gt p.ships ((gt all i).item)).am) _ _ (Fr.lentm hx_25 hR_25 1 G (by have h_ := q_3.1; have hd_ := hL.dims; omega) q_4) ((((hPB).ext hx_25).2.2.2.2.2 ((gt all i).item)).1) (by have h_ := q_3.1; have := hjb.am.1; omega) (by have h_ := q_3.1; have hd_ := hL.dims; first | omega | (rw [subL_len]; omega)) (by first | exact bdd_mono q_3.2 oO | exact bdd_mono (lOk_sub q_3 hjb.drop (Int.le_refl _)).2 oO) (by first | exact rng_bdd hjb.drop.2 oO oO | exact rng_bdd hjb.pick.2 oO oO | exact rng_bdd hjb.am.2 oO oO)) (fun v_q27 C_q27 q27 => ⟨tt0, ?_⟩))
   obtain ⟨u26, rfl, rfl⟩ := q27
   show SR _ _ _ _ _ _ _ _ _ ⟨_, _ :: _, _, _⟩
   refine SR.m 12 G G G G ?_
   refine SR.z 13 G G (ev_ext G G G) ?_
   refine SR.z 14 G G (ev_ext G G G) ?_
   refine SR.z 15 G G (ev_as G G) ?_
   refine SR.fin kR hl_25 hx_25 hR_25 (.c .n) ?_
   refine SQ.go idQ ?_
   refine .know (row_len 0 G) (fun hv30 => ?_)
   obtain ⟨A28, c29, rfl, hv30_1, hv30_2⟩ := hv30
   unfold maxLen at hv30_2
   refine SC.mbT .h ?_
   have hSt := lOk_St (x := gt all i) hL q_3 (k := 100000000 + 2000000 * (i + 1)) oO
   rw [loadSt_3 hsp oO] at hSt
   simp only [dropV, pickV, amV] at hSt
   refine .region (.p ((i + 1)) oO oO G G G G G (.m G G G ?_))
   exact SP.nil (SQ.roundb (X := Int × Bool × (Option Addr) × Nat × (List Int)) (x := (i, own, nA, nc, a)) ⟨(i + 1), true, A28, c29, (subL a ((gt p.ships ((gt all i).item)).am))⟩ (by (try dsimp only); exact ⟨by omega, by omega, (by have hq := q_2; rw [drop_gt (x := i) oO oO, abF_cons, if_pos hbt, loadSt_3 (hO.mem _ hgi) oO] at hq; exact hq), hSt, (fun h_ => by cases h_)⟩) dO (Sub.get (.c4 G G G G (.c G (.c G (.c G .n))))) (kp (.c .h (.c (.t2 .h) .n))))
  refine .skipgo idQ ?_
  exfalso; omega
 refine .exit idQ ?_
 refine .seq ?_
 obtain rfl : a = (abF p dn all 0 fst) := by have hq := q_2; rw [drop_end oO] at hq; exact hq
 refine .region (.m G G G (.a G G G (.go idQ ?_)))
 exact .ret idQ (ret1 results83 G (.c (.t .h) (.c .h .n)) ⟨own, nA, nc, q_4, (by have h_ := q_3.1; have hd_ := hL.dims; omega), G, G⟩)
theorem end_ (p : PB) (v : VH) (b : Nat) (aA : Option Addr) (ac : Nat) (all : List Vis) (fA : Option Addr) (fc : Nat) (fst : List Int) (mb_ : Nat) (B : VL) (c : Int) (dn : Int) (bk : Int) (pl : Int) (nw : Int) (cs : Int) (xv : VL) (S : Nat → Prop) (wf : World) (hA : Fr eVis S wf aA all) (hF : Fr eZ S wf fA fst) (hPB : PBF S wf p) (hVH : VHF S wf v) (hO : (CX.mk p v all fst).Ok) (hund : (CX.mk p v all fst).und dn) (hcs : 0 ≤ cs ∧ cs ≤ 1000000000000000) (hnw : 0 ≤ nw ∧ nw ≤ 2000000) (hwl : dn ≠ 0 → xv.wlA.isNone = false) (hn0 : 0 < all.length) :
  TR0 prog 84 [.pointer (some ⟨b, 0, none⟩), .agg #[.int .i64 dn, .int .i64 bk, .int .i64 pl, .int .i64 nw, .int .i64 cs, .slice xv.wlA xv.vl.length xv.wlc]] [cel b (cSL p v aA all ac fA fst fc mb_ B c) 123] S wf (fun v_ C_ => ∃ (B2 : VL) (c2 : Int), (∀ k, BLe B c k → BLe B2 c2 k) ∧ ((CX.mk p v all fst).EndK (RS.mk dn bk pl nw cs) → BLe B2 c2 ((CX.mk p v all fst).endc (RS.mk dn bk pl nw cs))) ∧ ((B2 = B ∧ c2 = c) ∨ ((CX.mk p v all fst).EndK (RS.mk dn bk pl nw cs) ∧ B2 = xv ∧ c2 = ((CX.mk p v all fst).endc (RS.mk dn bk pl nw cs)))) ∧ v_ = .tuple #[] ∧ C_ = [cel b (cSL p v aA all ac fA fst fc mb_ B2 c2) 123]) := by
 have hla := hA.len
 have hL : LawP p := hO.law
 have hV : VehOk p.dims p.tn v := hO.veh
 have hn12 : all.length ≤ 12 := hO.len
 have hpt := hV.pt
 have hpd := hV.pd
 have hlb := hVH.2.1.len
 have hct := cellF_rng (n := p.tn) (l := p.time) (f := pl) (t := v.en) hL.tc
 have hcd := cellF_rng (n := p.dn) (l := p.dist) (f := pl) (t := v.en) hL.dc
 have hfu := full_is hn12
 have hfr := full_rng hn12
 have hxw : (CX.mk p v all fst).EndK (RS.mk dn bk pl nw cs) → xv.wlA.isNone = false := fun e => hwl (by have := e.dn; have h2 := full_0 hn0; simp only at this; rw [this]; exact h2)
 refine TR.mk func84 G ntmps84 G G (fun w_ => ?_)
 refine .seq (.region (.cons (st_boxa G G G G G (fun b1 => (.go idQ (.seq ?_))))))
 refine SC.draw mo [] [] .n (fun _ _ _ => sc0) (fun wf_2 hl_2 hx_2 hR_2 => ?_)
 refine SR.m 0 G G G G ?_
 refine SR.z 1 G G (ev_nil G G) ?_
 refine SR.z 2 G G (ev_fa G fo123_0 G (r := 0) G) ?_
 refine SR.z 3 G G (ev_fa G fo29_1 G (r := 1) G) ?_
 refine SR.z 4 G G (ev_lda (cs := [.int .i64 p.tn, .slice p.ptA p.time.length p.ptc]) G G (At.d (At.lent hR_2 1 G G)) ty24) ?_
 refine SR.z 5 G G (ev_fa G fo132_0 G (r := 0) G) ?_
 refine SR.z 6 G G (ev_fa G fo130_2 G (r := 2) G) ?_
 refine SR.z 7 G G (ev_ld1 G ty3 G (At.d (At.lent hR_2 0 G G))) ?_
 refine SR.m 8 G G G G ?_
 refine SR.z 9 G G (ev_nil G G) ?_
 refine SR.z 10 G G (ev_fa G fo123_1 G (r := 8) G) ?_
 refine SR.z 11 G G (ev_fa G fo72_1 G (r := 9) G) ?_
 refine SR.z 12 G G (ev_ld1 G ty3 G (At.d (At.lent hR_2 1 G G))) ?_
 refine SR.m 14 G G G G ?_
 refine SR.z 15 G G (ev_nil G G) ?_
 refine SR.z 16 G G (ev_fa G fo123_0 G (r := 0) G) ?_
 refine SR.z 17 G G (ev_fa G fo29_2 G (r := 3) G) ?_
 refine SR.z 18 G G (ev_lda (cs := [.int .i64 p.dn, .slice p.pdA p.dist.length p.pdc]) G G (At.d (At.lent hR_2 1 G G)) ty24) ?_
 refine SR.z 19 G G (ev_fa G fo132_0 G (r := 0) G) ?_
 refine SR.z 20 G G (ev_fa G fo130_2 G (r := 2) G) ?_
 refine SR.z 21 G G (ev_ld1 G ty3 G (At.d (At.lent hR_2 0 G G))) ?_
 refine SR.m 22 G G G G ?_
 refine SR.z 23 G G (ev_nil G G) ?_
 refine SR.z 24 G G (ev_fa G fo123_1 G (r := 8) G) ?_
 refine SR.z 25 G G (ev_fa G fo72_1 G (r := 9) G) ?_
 refine SR.z 26 G G (ev_ld1 G ty3 G (At.d (At.lent hR_2 1 G G))) ?_
 refine SR.o 13 G (st_callk G G G G hbd122 G .n (cell_ p.tn p.ptA p.ptc p.time pl v.en _ _ (((hPB).ext hx_2).1) (by have := hL.tn; have := hL.dn; omega) (by first | exact hL.tlen | (rw [hL.dn]; exact hL.dlen))) ⟨tt0, ?_⟩)
 refine SR.o 27 G (st_callk G G G G hbd122 G .n (cell_ p.dn p.pdA p.pdc p.dist pl v.en _ _ (((hPB).ext hx_2).2.1) (by have := hL.tn; have := hL.dn; omega) (by first | exact hL.tlen | (rw [hL.dn]; exact hL.dlen))) ⟨tt0, ?_⟩)
 refine SR.z 28 G G (ev_as G G) ?_
 refine SR.z 29 G G (ev_as G G) ?_
 refine SR.fin kR hl_2 hx_2 hR_2 .n ?_
 refine SQ.go idQ ?_
 refine .seq (.seq ?_)
 refine SC.draw mo [] [] .n (fun _ _ _ => sc0) (fun wf_3 hl_3 hx_3 hR_3 => ?_)
 refine SR.z 0 G G (ev_fa G fo132_0 G (r := 0) G) ?_
 refine SR.z 1 G G (ev_fa G fo130_0 G (r := 0) G) ?_
 refine SR.z 2 G G (ev_ld1 G ty3 G (At.d (At.lent hR_3 0 G G))) ?_
 refine SR.m 3 G G G G ?_
 refine SR.z 4 G G (ev_nil G G) ?_
 refine SR.z 5 G G (ev_fa G fo123_2 G (r := 19) G) ?_
 refine SR.z 6 G G (ev_ld1 G ty52 G (At.d (At.lent hR_3 1 G G))) ?_
 refine SR.z 7 G G (ev_len G underlying52 G) ?_
 refine SR.z 8 G G (ev_shl (r := (shlI 1 (all.length : Int))) G G G oO G) ?_
 refine SR.z 9 G G (ev_sub G G G (r := ((shlI 1 (all.length : Int)) - 1)) G oO oO) ?_
 refine SR.z 10 G G (ev_cmp G G G G) ?_
 refine SR.m 11 G G G G ?_
 refine SR.y 12 G G (fun _ => ev_fa G fo132_0 G (r := 0) G) ?_
 refine SR.y 13 G G (fun hb => ev_fa G fo130_1 (lkg G hb) (r := 1) G) ?_
 refine SR.y 14 G G (fun hb => ev_ld1 G ty3 (lkg G hb) (At.d (At.lent hR_3 0 G G))) ?_
 refine SR.y 15 G G (fun _ => ev_mv G G) ?_
 refine SR.y 16 G G (fun hb => ev_nil G (lkg G hb)) ?_
 refine SR.y 17 G G (fun hb => ev_fa G fo123_1 (lkg G hb) (r := 8) G) ?_
 refine SR.y 18 G G (fun hb => ev_fa G fo72_9 (lkg G hb) (r := 18) G) ?_
 refine SR.y 19 G G (fun hb => ev_ld1 G ty70 (lkg G hb) (At.d (At.lent hR_3 1 G G))) ?_
 refine SR.y 20 G G (fun hb => ev_len G underlying70 (lkg G hb)) ?_
 refine SR.y 21 G G (fun hb => ev_cmp G (lkg G hb) (lkg G hb) G) ?_
 refine SR.z 22 G G (ev_or G G G G) ?_
 refine SR.m 23 G G G G ?_
 refine SR.y 24 G G (fun _ => ev_mv G G) ?_
 refine SR.y 25 G G (fun hb => ev_cmp G (lkg G hb) G G) ?_
 refine SR.z 26 G G (ev_or G G G G) ?_
 refine SR.m 27 G G G G ?_
 refine SR.y 28 G G (fun _ => ev_mv G G) ?_
 refine SR.y 29 G G (fun hb => ev_cmp G (lkg G hb) G G) ?_
 refine SR.z 30 G G (ev_or G G G G) ?_
 refine SR.m 31 G G G G ?_
 refine SR.y 32 G G (fun _ => ev_fa G fo132_1 G (r := 3) G) ?_
 refine SR.y 33 G G (fun hb => ev_ld1 G ty3 (lkg G hb) (At.d (At.lent hR_3 0 G G))) ?_
 refine SR.y 34 G G (fun _ => ev_mv G G) ?_
 refine SR.y 35 G G (fun hb => have hp := bF (bO (bO (bO bNE bNE) bD) bD) hb; ev_add G (lkg G hb) (lkg G hb) (r := (nw + (cellF p.tn p.time pl v.en))) G (by have _h := hp; omega) (by have _h := hp; omega)) ?_
 refine SR.y 36 G G (fun _ => ev_mv G G) ?_
 refine SR.y 37 G G (fun hb => ev_nil G (lkg G hb)) ?_
 refine SR.y 38 G G (fun hb => ev_fa G fo123_1 (lkg G hb) (r := 8) G) ?_
 refine SR.y 39 G G (fun hb => ev_fa G fo72_4 (lkg G hb) (r := 12) G) ?_
 refine SR.y 40 G G (fun hb => ev_fa G fo69_1 (lkg G hb) (r := 13) G) ?_
 refine SR.y 41 G G (fun hb => ev_ld1 G ty3 (lkg G hb) (At.d (At.lent hR_3 1 G G))) ?_
 refine SR.y 42 G G (fun hb => ev_cmp G (lkg G hb) (lkg G hb) G) ?_
 refine SR.z 43 G G (ev_or G G G G) ?_
 refine SR.fin kR hl_3 hx_3 hR_3 .n ?_
 refine SQ.go idQ ?_
 refine .condI G (bO (bO (bO (bO bNE bNE) bD) bD) bD) (fun h4 => ?_) (fun h4 => ?_)
 ·
  exact .ret idQ (ret0 results84 (.c (.t .h) .n) ⟨B, c, (fun k h => h), (fun e => absurd e (endk_no hn12 h4)), (.inl ⟨G, G⟩), G, G⟩)
 refine .skipgo idQ (.seq ?_)
 have hE : (CX.mk p v all fst).EndK (RS.mk dn bk pl nw cs) := endk_of hn12 hund h4
 have hE2 : 0 ≤ cellF p.tn p.time pl v.en ∧ 0 ≤ cellF p.dn p.dist pl v.en := ⟨hE.tc, hE.dc⟩
 have hm1 := mulb (a := cellF p.tn p.time pl v.en) (b := v.pt) oO oO oO oO
 have hm2 := mulb (a := cellF p.dn p.dist pl v.en) (b := v.pd) oO oO oO oO
 refine SC.draw mo [] [] .n (fun _ _ _ => sc0) (fun wf_5 hl_5 hx_5 hR_5 => ?_)
 refine SR.z 0 G G (ev_fa G fo132_2 G (r := 4) G) ?_
 refine SR.z 1 G G (ev_ld1 G ty3 G (At.d (At.lent hR_5 0 G G))) ?_
 refine SR.m 2 G G G G ?_
 refine SR.m 3 G G G G ?_
 refine SR.z 4 G G (ev_nil G G) ?_
 refine SR.z 5 G G (ev_fa G fo123_1 G (r := 8) G) ?_
 refine SR.z 6 G G (ev_fa G fo72_6 G (r := 15) G) ?_
 refine SR.z 7 G G (ev_ld1 G ty3 G (At.d (At.lent hR_5 1 G G))) ?_
 refine SR.z 8 G G (ev_mul G G G (r := ((cellF p.tn p.time pl v.en) * v.pt)) G oO oO) ?_
 refine SR.z 9 G G (ev_add G G G (r := (cs + ((cellF p.tn p.time pl v.en) * v.pt))) G oO oO) ?_
 refine SR.m 10 G G G G ?_
 refine SR.m 11 G G G G ?_
 refine SR.z 12 G G (ev_nil G G) ?_
 refine SR.z 13 G G (ev_fa G fo123_1 G (r := 8) G) ?_
 refine SR.z 14 G G (ev_fa G fo72_7 G (r := 16) G) ?_
 refine SR.z 15 G G (ev_ld1 G ty3 G (At.d (At.lent hR_5 1 G G))) ?_
 refine SR.z 16 G G (ev_mul G G G (r := ((cellF p.dn p.dist pl v.en) * v.pd)) G oO oO) ?_
 refine SR.z 17 G G (ev_add G G G (r := ((cs + ((cellF p.tn p.time pl v.en) * v.pt)) + ((cellF p.dn p.dist pl v.en) * v.pd))) G oO oO) ?_
 refine SR.z 18 G G (ev_as G G) ?_
 refine SR.fin kR hl_5 hx_5 hR_5 .n ?_
 refine SQ.go idQ ?_
 refine .seq (.region (.m G G G (.v (ev_nil G G) G (.f fo123_5 22 G G G G ?_))))
 refine .l ty52 1 G G G G G (.v (ev_nils G underlying52 G G (by rfl)) G (.m G G G (.w (fun _ => ev_mv G G) G ?_)))
 refine .w (fun _ => ev_mv G G) G (.w (fun hb => ev_nil G (lkg G hb)) G (.w (fun hb => ev_fa G fo123_6 (lkg G hb) (r := 23) G) G (.w (fun hb => ev_ld1 G ty3 (lkg G hb) (At.own1 1 G G)) G ?_)))
 refine .w (fun hb => ev_cmp G (lkg G hb) (lkg G hb) G) G (.r G G G G G (.go idQ (.condI G (bO bV bD) (fun h6 => ?_) (fun h6 => ?_))))
 ·
  refine .region (.m G G G (.m G G G (.f fo132_3 5 G G G G ?_)))
  refine .l ty52 0 G G G G G (.m G G G (.v (ev_nil G G) G (.f fo123_5 22 G G G G ?_)))
  refine .cons (st_store1 G G G ty52 G G G (.t .h) (.t4 (.t4 (.t4 (.t4 (.t4 (.t2 .h)))))) ?_)
  refine .v (ev_nil G G) G (.f fo123_6 23 G G G G (.cons (st_store1 G G G ty3 G G G .h (.t4 (.t4 (.t4 (.t4 (.t4 (.t2 (.t .h))))))) ?_)))
  exact SP.nil (end0 results84 (.c .h .n) ⟨xv, ((CX.mk p v all fst).endc (RS.mk dn bk pl nw cs)), (end_take (hxw hE) h6), (fun e => ⟨hxw hE, Int.le_refl _⟩), (.inr ⟨hE, G, G⟩), G, G⟩)
 exact .skipq idQ (end0 results84 (.c (.t .h) .n) ⟨B, c, (fun k h => h), (fun e => end_keep h6), (.inl ⟨G, G⟩), G, G⟩)
end Go.Proofs.YtimhdimhdimbjaaGreat.Sx
set_option maxRecDepth 20000
set_option maxHeartbeats 1000000
namespace Go.Proofs.YtimhdimhdimbjaaGreat.Sx.FEB
open Go Go.SX Go.Proofs Go.Proofs.Tryz FA FB FC FD FE FF FG FH FJ FK FL FM FP FQ FU FW FEA
theorem zf132 : (prog.info? 132).bind (fun i => i.zero.map Value.cells) = some (List.toArray [.int .i64 0, .int .i64 0, .int .i64 0, .int .i64 0, .int .i64 0, .slice none 0 0]) := by kernel_rfl
theorem ty132 : ty prog 132 = some (true, 6) := by kernel_rfl
theorem hbd54 : hasBody prog 54 = true := by kernel_rfl
theorem eqIn130 (d : Nat) (x0 y0 : Int) (x1 y1 : Int) (x2 y2 : Int) (w : World) : (Op.equalIn (d + 3) 130 (.agg #[(.int .i64 x0), (.int .i64 x1), (.int .i64 x2)]) (.agg #[(.int .i64 y0), (.int .i64 y1), (.int .i64 y2)])).run prog w = .ok ((x0 == y0) && ((x1 == y1) && (x2 == y2))) w := by
 rw [run_equalIn_struct w (d + 2) 130 _ _ kR kR]
 have hf : (prog.fieldsOf 130).toList = [{ name := "done", type := 3, offset := 0, embedded := false, tag := "", pkgPath := "haulier/exact", byteOffset := 0 }, { name := "breaks", type := 3, offset := 1, embedded := false, tag := "", pkgPath := "haulier/exact", byteOffset := 8 }, { name := "place", type := 3, offset := 2, embedded := false, tag := "", pkgPath := "haulier/exact", byteOffset := 16 }] := by kernel_rfl
 rw [hf]
 have h3 : ∀ (x y : Int) (w : World), (Op.equalIn (d + 2) 3 (.int .i64 x) (.int .i64 y)).run prog w = .ok (x == y) w := fun x y w => by
  simp [Op.equalIn, run_underlying underlying3]
 have p0 : ∀ (x0 : Int) (x1 : Int) (x2 : Int) (w : World), (part 3 #[(.int .i64 x0), (.int .i64 x1), (.int .i64 x2)] 0).run prog w = .ok (.int .i64 x0) w := fun _ _ _ _ => by kernel_rfl
 have p1 : ∀ (x0 : Int) (x1 : Int) (x2 : Int) (w : World), (part 3 #[(.int .i64 x0), (.int .i64 x1), (.int .i64 x2)] 1).run prog w = .ok (.int .i64 x1) w := fun _ _ _ _ => by kernel_rfl
 have p2 : ∀ (x0 : Int) (x1 : Int) (x2 : Int) (w : World), (part 3 #[(.int .i64 x0), (.int .i64 x1), (.int .i64 x2)] 2).run prog w = .ok (.int .i64 x2) w := fun _ _ _ _ => by kernel_rfl
 simp only [Op.eqFields, Sem.run_bind, h3, p0, p1, p2, Result.andThen_ok, Sem.run_ite, ne_eq]
 cases g0 : (x0 == y0) <;> cases g1 : (x1 == y1) <;> cases g2 : (x2 == y2) <;> simp [g0, g1, g2]
end Go.Proofs.YtimhdimhdimbjaaGreat.Sx.FEB
namespace Go.Proofs.YtimhdimhdimbjaaGreat.Sx
open Go Go.SX Go.Proofs Go.Proofs.Tryz FA FB FC FD FE FF FG FH FJ FK FL FM FP FQ FU FW FEA FEB
def keKY : KE prog 130 KY := KE.ofStruct kyV kyV_inj underlying130 (fun x y w => by
  have h : (Op.equal 130 (kyV x) (kyV y)).run prog w = .ok ((x.kd == y.kd) && ((x.kb == y.kb) && (x.kp == y.kp))) w := eqIn130 9997 _ _ _ _ _ _ w
  rw [h]; congr 1; rw [Bool.eq_iff_iff]; simp only [Bool.and_eq_true, beq_iff_eq, decide_eq_true_eq]; exact ⟨fun e => by cases x; cases y; simp only at e; rw [e.1, e.2.1, e.2.2], fun e => by rw [e]; exact ⟨rfl, rfl, rfl⟩⟩)
 (fun w b x => by kernel_rfl) kyV_bits
theorem step_ (f : Nat) (p : PB) (v : VH) (b : Nat) (aA : Option Addr) (ac : Nat) (all : List Vis) (fA : Option Addr) (fc : Nat) (fst : List Int) (mb_ : Nat) (B : VL) (c : Int) (dn : Int) (bk : Int) (pl : Int) (nw : Int) (cs : Int) (xv : VL) (P : List VL) (M : List (KY × LB)) (F : Int) (t : Int) (i : Int) (S : Nat → Prop) (wf : World) (hA : Fr eVis S wf aA all) (hF : Fr eZ S wf fA fst) (hPB : PBF S wf p) (hVH : VHF S wf v) (hO : (CX.mk p v all fst).Ok) (hf : F < (f : Int) + 1) (hI : SrI (CX.mk p v all fst) (F - 1) M B c P) (hx : XI (CX.mk p v all fst) F (RS.mk dn bk pl nw cs) xv) (hund : (CX.mk p v all fst).und dn) (hm : xv ∈ P) (hbd : ∀ κ, ((lbs M κ).length : Int) ≤ t) (ht : t + tp (F - 1) ≤ 1000000000000) (hn0 : 0 < all.length ∧ all.length ≤ 8) (hfo : lOk p 100000000 fst) (hi : 0 ≤ i ∧ i < (all.length : Int)) (hb1 : bt dn i = false) (hb2 : (gt all i).kind = 3 → bt dn (i - 1) = true) (hG : ∀ (p : PB) (v : VH) (b : Nat) (aA : Option Addr) (ac : Nat) (all : List Vis) (fA : Option Addr) (fc : Nat) (fst : List Int) (mb_ : Nat) (B : VL) (c : Int) (dn : Int) (bk : Int) (pl : Int) (nw : Int) (cs : Int) (xv : VL) (P : List VL) (M : List (KY × LB)) (F : Int) (t : Int) (S : Nat → Prop) (wf : World) (hA : Fr eVis S wf aA all) (hF : Fr eZ S wf fA fst) (hPB : PBF S wf p) (hVH : VHF S wf v) (hO : (CX.mk p v all fst).Ok) (hF0 : 0 ≤ F) (hf : F < f) (hI : SrI (CX.mk p v all fst) F M B c P) (hx : XI (CX.mk p v all fst) F (RS.mk dn bk pl nw cs) xv) (hm : xv ∈ P) (hbd : ∀ κ, ((lbs M κ).length : Int) ≤ t) (ht : t + tp F ≤ 1000000000000) (hn0 : 0 < all.length ∧ all.length ≤ 8) (hfo : lOk p 100000000 fst),
  TR0 prog 54 [.pointer (some ⟨b, 0, none⟩), .agg #[.int .i64 dn, .int .i64 bk, .int .i64 pl, .int .i64 nw, .int .i64 cs, .slice xv.wlA xv.vl.length xv.wlc]] [cel b (cSL p v aA all ac fA fst fc mb_ B c) 123, mp keKY.f lbV mb_ M, nestLB 132 M, nestVL 92 P] S wf (fun v_ C_ => ∃ (M2 : List (KY × LB)) (B2 : VL) (c2 : Int) (P2 : List VL), (SrI (CX.mk p v all fst) F M2 B2 c2 P2) ∧ (SrS (CX.mk p v all fst) F M B c P M2 B2 c2 P2 (tp F)) ∧ (∀ k, CX.Fin (CX.mk p v all fst) (RS.mk dn bk pl nw cs) k → BLe B2 c2 k) ∧ v_ = .tuple #[] ∧ C_ = [cel b (cSL p v aA all ac fA fst fc mb_ B2 c2) 123, mp keKY.f lbV mb_ M2, nestLB 132 M2, nestVL 92 P2])) :
  TR0 prog 86 [.pointer (some ⟨b, 0, none⟩), .agg #[.int .i64 dn, .int .i64 bk, .int .i64 pl, .int .i64 nw, .int .i64 cs, .slice xv.wlA xv.vl.length xv.wlc], .int .i64 i, .agg #[.int .i64 ((gt all i).kind), .int .i64 ((gt all i).item)]] [cel b (cSL p v aA all ac fA fst fc mb_ B c) 123, mp keKY.f lbV mb_ M, nestLB 132 M, nestVL 92 P] S wf (fun v_ C_ => ∃ (M2 : List (KY × LB)) (B2 : VL) (c2 : Int) (P2 : List VL), (SrI (CX.mk p v all fst) (F - 1) M2 B2 c2 P2) ∧ (SrS (CX.mk p v all fst) (F - 1) M B c P M2 B2 c2 P2 (tp (F - 1))) ∧ ((CX.mk p v all fst).visOk (RS.mk dn bk pl nw cs) i → ∀ k, CX.Fin (CX.mk p v all fst) ((CX.mk p v all fst).vis (RS.mk dn bk pl nw cs) i) k → BLe B2 c2 k) ∧ v_ = .tuple #[] ∧ C_ = [cel b (cSL p v aA all ac fA fst fc mb_ B2 c2) 123, mp keKY.f lbV mb_ M2, nestLB 132 M2, nestVL 92 P2]) := by
 have hla := hA.len
 have hL : LawP p := hO.law
 have hV : VehOk p.dims p.tn v := hO.veh
 have hn12 : all.length ≤ 12 := hO.len
 have hpt := hV.pt
 have hpd := hV.pd
 have hlb := hVH.2.1.len
 have hcs : 0 ≤ cs ∧ cs ≤ 64000000000000 * (12 - F) := hx.cs
 have hnw : 0 ≤ nw ∧ nw ≤ 2000000 := hx.nw
 have hbk : 0 ≤ bk ∧ bk ≤ (v.brs.length : Int) := hx.bk
 have hdn : 0 ≤ dn ∧ dn < 4096 := ⟨hx.dn.1, by have h_ := hx.dn.2; have h2_ := pow_le8 hn12; have h3_ : dn < ((2 ^ all.length : Nat) : Int) := h_; omega⟩
 have hvl := hx.vl
 have hf0 := hx.f0
 refine TR.mk func86 G ntmps86 G G (fun w_ => ?_)
 refine .seq (.region (.cons (st_boxa G G G G G (fun b1 => (.cons (st_boxa G G G G G (fun b2 => (.go idQ (.seq ?_)))))))))
 refine SC.draw mo [] [] .n (fun _ _ _ => sc0) (fun wf_3 hl_3 hx_3 hR_3 => ?_)
 refine SR.cutx (X := Nat × (Option Addr) × Nat) (fun (yb4, yA5, yc6) => ([(0, .pointer (some ⟨b, 0, none⟩)), (2, .int .i64 i), (5, .pointer (some ⟨b1, 0, none⟩)), (7, .pointer (some ⟨b2, 0, none⟩)), (8, .pointer (some ⟨yb4, 0, none⟩))], [cel yb4 [.int .i64 ((stopD p (gt all i)).pl), .int .i64 ((stopD p (gt all i)).srv), .slice yA5 (((stopD p (gt all i)).sws).length) yc6] 78, rw_ eWN 69 (.slice yA5 (((stopD p (gt all i)).sws).length) yc6) ((stopD p (gt all i)).sws), cel b2 [.int .i64 ((gt all i).kind), .int .i64 ((gt all i).item)] 92, cel b1 [.int .i64 dn, .int .i64 bk, .int .i64 pl, .int .i64 nw, .int .i64 cs, .slice xv.wlA xv.vl.length xv.wlc] 132, cel b (cSL p v aA all ac fA fst fc mb_ B c) 123, mp keKY.f lbV mb_ M, nestLB 132 M, nestVL 92 P])) S wf (fun ⟨yb4, yA5, yc6⟩ => ?_) (fun key7 => ?_)
 ·
  try dsimp only
  refine SQ.go idQ ?_
  refine .seq ?_
  have hct := cellF_rng (n := p.tn) (l := p.time) (f := pl) (t := (stopD p (gt all i)).pl) hL.tc
  have hcd := cellF_rng (n := p.dn) (l := p.dist) (f := pl) (t := (stopD p (gt all i)).pl) hL.dc
  have hsr := stopD_rng hL (gt all i)
  have hws := stop_ws hL (gt all i)
  refine SC.draw mo [] [] .n (fun _ _ _ => sc0) (fun wf_8 hl_8 hx_8 hR_8 => ?_)
  refine SR.m 0 G G G G ?_
  refine SR.z 1 G G (ev_nil G G) ?_
  refine SR.z 2 G G (ev_fa G fo123_0 G (r := 0) G) ?_
  refine SR.z 3 G G (ev_fa G fo29_1 G (r := 1) G) ?_
  refine SR.z 4 G G (ev_lda (cs := [.int .i64 p.tn, .slice p.ptA p.time.length p.ptc]) G G (At.d (At.lent hR_8 4 G G)) ty24) ?_
  refine SR.z 5 G G (ev_fa G fo132_0 G (r := 0) G) ?_
  refine SR.z 6 G G (ev_fa G fo130_2 G (r := 2) G) ?_
  refine SR.z 7 G G (ev_ld1 G ty3 G (At.d (At.lent hR_8 3 G G))) ?_
  refine SR.z 8 G G (ev_fa G fo78_0 G (r := 0) G) ?_
  refine SR.z 9 G G (ev_ld1 G ty3 G (At.d (At.lent hR_8 0 G G))) ?_
  refine SR.m 11 G G G G ?_
  refine SR.z 12 G G (ev_nil G G) ?_
  refine SR.z 13 G G (ev_fa G fo123_0 G (r := 0) G) ?_
  refine SR.z 14 G G (ev_fa G fo29_2 G (r := 3) G) ?_
  refine SR.z 15 G G (ev_lda (cs := [.int .i64 p.dn, .slice p.pdA p.dist.length p.pdc]) G G (At.d (At.lent hR_8 4 G G)) ty24) ?_
  refine SR.z 16 G G (ev_fa G fo132_0 G (r := 0) G) ?_
  refine SR.z 17 G G (ev_fa G fo130_2 G (r := 2) G) ?_
  refine SR.z 18 G G (ev_ld1 G ty3 G (At.d (At.lent hR_8 3 G G))) ?_
  refine SR.z 19 G G (ev_fa G fo78_0 G (r := 0) G) ?_
  refine SR.z 20 G G (ev_ld1 G ty3 G (At.d (At.lent hR_8 0 G G))) ?_
  refine SR.o 10 G (st_callk G G G G hbd122 G .n (cell_ p.tn p.ptA p.ptc p.time pl ((stopD p (gt all i)).pl) _ _ (((hPB).ext hx_8).1) (by have := hL.tn; have := hL.dn; omega) (by first | exact hL.tlen | (rw [hL.dn]; exact hL.dlen))) ⟨tt0, ?_⟩)
  refine SR.o 21 G (st_callk G G G G hbd122 G .n (cell_ p.dn p.pdA p.pdc p.dist pl ((stopD p (gt all i)).pl) _ _ (((hPB).ext hx_8).2.1) (by have := hL.tn; have := hL.dn; omega) (by first | exact hL.tlen | (rw [hL.dn]; exact hL.dlen))) ⟨tt0, ?_⟩)
  refine SR.z 22 G G (ev_as G G) ?_
  refine SR.z 23 G G (ev_as G G) ?_
  refine SR.fin kR hl_8 hx_8 hR_8 .n ?_
  refine SQ.go idQ ?_
  refine .seq (.region (.f fo78_2 2 G G G G (.l ty73 0 G G G G G (.f fo132_1 3 G G G G ?_))))
  refine .l ty3 3 G G G G G (.m G G G (.v (ev_add G G G (r := (nw + (cellF p.tn p.time pl ((stopD p (gt all i)).pl)))) G oO oO) G (.cons (st_lendk G G G G hbd85 G .n (.c (.t .h) .n) (fun w_ hw => hstart yA5 yc6 ((stopD p (gt all i)).sws) (nw + (cellF p.tn p.time pl ((stopD p (gt all i)).pl))) _ _ (Fr.lend hw 0 G lO)) ?_))))
  refine .m G G G (.x G G G G (.x G G G G (.a G G G ?_)))
  refine .a G G G (.go idQ (.seq (.seq (.region (.m G G G (.e G G G G G ?_))))))
  refine .m G G G (.w (fun _ => ev_mv G G) G (.w (fun hb => ev_cmp G (lkg G hb) G G) G (.r G G G G G ?_)))
  refine .m G G G (.w (fun _ => ev_mv G G) G (.w (fun hb => ev_not G (lkg G hb)) G (.r G G G G G ?_)))
  refine .go idQ (.condI G (bO (bO bD bD) (bN bV)) (fun h9 => ?_) (fun h9 => ?_))
  ·
   exact .ret idQ (ret0 results86 (.c (.t4 .h) (.c (.t4 .h) (.c (.t4 .h) (.c (.t4 .h) .n)))) ⟨M, B, c, P, hI, (SrS.refl.wk (Int.le_refl _) tp_0), (fun o => absurd o (visO_no h9)), G, G⟩)
  refine .skipgo idQ (.seq ?_)
  have hvo : (CX.mk p v all fst).visOk (RS.mk dn bk pl nw cs) i := visO_yes hb1 hb2 h9
  have hvo2 : 0 ≤ cellF p.tn p.time pl (stopD p (gt all i)).pl ∧ 0 ≤ cellF p.dn p.dist pl (stopD p (gt all i)).pl := ⟨hvo.2.2.1, hvo.2.2.2.1⟩
  have hst_ := startF_rng (stop_ok hL (hO.mem _ (gt_in hi.1 hi.2))).win.each hvo.2.2.2.2
  have hst : 0 ≤ (startF (stopD p (gt all i)).sws (nw + cellF p.tn p.time pl (stopD p (gt all i)).pl)).1 ∧ (startF (stopD p (gt all i)).sws (nw + cellF p.tn p.time pl (stopD p (gt all i)).pl)).1 ≤ 1000000 := ⟨hst_.1, hst_.2.1⟩
  have hm1 := mulb (a := cellF p.tn p.time pl (stopD p (gt all i)).pl) (b := v.pt) oO oO oO oO
  have hm2 := mulb (a := cellF p.dn p.dist pl (stopD p (gt all i)).pl) (b := v.pd) oO oO oO oO
  have hset : bor .i64 dn (shlI 1 i) = setb dn i := or_set hdn.1 oO hi.1 oO
  refine SC.draw mo [] [] .n (fun _ _ _ => sc0) (fun wf_10 hl_10 hx_10 hR_10 => ?_)
  refine SR.z 0 G G (ev_fa G fo132_0 G (r := 0) G) ?_
  refine SR.z 1 G G (ev_fa G fo130_0 G (r := 0) G) ?_
  refine SR.z 2 G G (ev_ld1 G ty3 G (At.d (At.lent hR_10 3 G G))) ?_
  refine SR.m 3 G G G G ?_
  refine SR.z 4 G G (ev_shl (r := (shlI 1 i)) G G G oO G) ?_
  refine SR.z 5 G G (ev_bor G G G) ?_
  refine SR.z 6 G G (ev_fa G fo132_0 G (r := 0) G) ?_
  refine SR.z 7 G G (ev_fa G fo130_1 G (r := 1) G) ?_
  refine SR.z 8 G G (ev_ld1 G ty3 G (At.d (At.lent hR_10 3 G G))) ?_
  refine SR.z 9 G G (ev_fa G fo78_0 G (r := 0) G) ?_
  refine SR.z 10 G G (ev_ld1 G ty3 G (At.d (At.lent hR_10 0 G G))) ?_
  refine SR.z 11 G G (ev_any (v := .agg #[.int .i64 (bor .i64 dn (shlI 1 i)), .int .i64 bk, .int .i64 ((stopD p (gt all i)).pl)]) G kR (fun _ => by kernel_rfl)) ?_
  refine SR.m 12 G G G G ?_
  refine SR.z 13 G G (ev_fa G fo78_1 G (r := 1) G) ?_
  refine SR.z 14 G G (ev_ld1 G ty3 G (At.d (At.lent hR_10 0 G G))) ?_
  refine SR.z 15 G G (ev_add G G G (r := (((startF ((stopD p (gt all i)).sws) (nw + (cellF p.tn p.time pl ((stopD p (gt all i)).pl)))).1) + ((stopD p (gt all i)).srv))) G oO oO) ?_
  refine SR.z 16 G G (ev_any (v := .agg #[.int .i64 (bor .i64 dn (shlI 1 i)), .int .i64 bk, .int .i64 ((stopD p (gt all i)).pl), .int .i64 (((startF ((stopD p (gt all i)).sws) (nw + (cellF p.tn p.time pl ((stopD p (gt all i)).pl)))).1) + ((stopD p (gt all i)).srv)), .int .i64 0, .slice none 0 0]) G kR (fun _ => by kernel_rfl)) ?_
  refine SR.o 17 G (st_alloc G G G G zf132 (fun b11 => ⟨tt0, ?_⟩))
  refine SR.o 18 G (st_storea (l' := [.int .i64 (bor .i64 dn (shlI 1 i)), .int .i64 bk, .int .i64 ((stopD p (gt all i)).pl), .int .i64 (((startF ((stopD p (gt all i)).sws) (nw + (cellF p.tn p.time pl ((stopD p (gt all i)).pl)))).1) + ((stopD p (gt all i)).srv)), .int .i64 0, .slice none 0 0]) G G G ty132 G G G .h G G ⟨tt0, ?_⟩)
  refine SR.fin kR hl_10 hx_10 hR_10 (.c .n) ?_
  refine SQ.go idQ ?_
  refine .seq ?_
  refine SC.draw mo [cel b11 [.int .i64 (bor .i64 dn (shlI 1 i)), .int .i64 bk, .int .i64 ((stopD p (gt all i)).pl), .int .i64 (((startF ((stopD p (gt all i)).sws) (nw + (cellF p.tn p.time pl ((stopD p (gt all i)).pl)))).1) + ((stopD p (gt all i)).srv)), .int .i64 0, .slice none 0 0] 132] [] (.c .h .n) (fun _ _ _ => sc0) (fun wf_12 hl_12 hx_12 hR_12 => ?_)
  refine SR.z 0 G G (ev_fa G fo132_2 G (r := 4) G) ?_
  refine SR.z 1 G G (ev_ld1 G ty3 G (At.d (At.lent hR_12 3 G G))) ?_
  refine SR.m 2 G G G G ?_
  refine SR.m 3 G G G G ?_
  refine SR.z 4 G G (ev_nil G G) ?_
  refine SR.z 5 G G (ev_fa G fo123_1 G (r := 8) G) ?_
  refine SR.z 6 G G (ev_fa G fo72_6 G (r := 15) G) ?_
  refine SR.z 7 G G (ev_ld1 G ty3 G (At.d (At.lent hR_12 4 G G))) ?_
  refine SR.z 8 G G (ev_mul G G G (r := ((cellF p.tn p.time pl ((stopD p (gt all i)).pl)) * v.pt)) G (by have hm_ := mulb (a := (cellF p.tn p.time pl ((stopD p (gt all i)).pl))) (b := v.pt) oO oO oO oO; omega) (by have hm_ := mulb (a := (cellF p.tn p.time pl ((stopD p (gt all i)).pl))) (b := v.pt) oO oO oO oO; omega)) ?_
  refine SR.z 9 G G (ev_add G G G (r := (cs + ((cellF p.tn p.time pl ((stopD p (gt all i)).pl)) * v.pt))) G oO oO) ?_
  refine SR.m 10 G G G G ?_
  refine SR.m 11 G G G G ?_
  refine SR.z 12 G G (ev_nil G G) ?_
  refine SR.z 13 G G (ev_fa G fo123_1 G (r := 8) G) ?_
  refine SR.z 14 G G (ev_fa G fo72_7 G (r := 16) G) ?_
  refine SR.z 15 G G (ev_ld1 G ty3 G (At.d (At.lent hR_12 4 G G))) ?_
  refine SR.z 16 G G (ev_mul G G G (r := ((cellF p.dn p.dist pl ((stopD p (gt all i)).pl)) * v.pd)) G (by have hm_ := mulb (a := (cellF p.dn p.dist pl ((stopD p (gt all i)).pl))) (b := v.pd) oO oO oO oO; omega) (by have hm_ := mulb (a := (cellF p.dn p.dist pl ((stopD p (gt all i)).pl))) (b := v.pd) oO oO oO oO; omega)) ?_
  refine SR.z 17 G G (ev_add G G G (r := ((cs + ((cellF p.tn p.time pl ((stopD p (gt all i)).pl)) * v.pt)) + ((cellF p.dn p.dist pl ((stopD p (gt all i)).pl)) * v.pd))) G oO oO) ?_
  refine SR.z 18 G G (ev_fa G fo132_2 G (r := 4) G) ?_
  refine SR.o 19 G (st_store1 G G G ty3 G G G .h (.t4 .h) ⟨tt0, ?_⟩)
  refine SR.fin kR hl_12 hx_12 hR_12 (.c .n) ?_
  refine SQ.go idQ ?_
  refine .seq ?_
  refine SC.draw mo [cel b11 [.int .i64 (bor .i64 dn (shlI 1 i)), .int .i64 bk, .int .i64 ((stopD p (gt all i)).pl), .int .i64 (((startF ((stopD p (gt all i)).sws) (nw + (cellF p.tn p.time pl ((stopD p (gt all i)).pl)))).1) + ((stopD p (gt all i)).srv)), .int .i64 ((cs + ((cellF p.tn p.time pl ((stopD p (gt all i)).pl)) * v.pt)) + ((cellF p.dn p.dist pl ((stopD p (gt all i)).pl)) * v.pd)), .slice none 0 0] 132] [] (.c .h .n) (fun _ _ _ => sc0) (fun wf_13 hl_13 hx_13 hR_13 => ?_)
  refine SR.z 1 G G (ev_fa G fo132_3 G (r := 5) G) ?_
  refine SR.z 2 G G (ev_ld1 G ty52 G (At.d (At.lent hR_13 3 G G))) ?_
  refine SR.z 4 G G (ev_lda (cs := [.int .i64 ((gt all i).kind), .int .i64 ((gt all i).item)]) G G (At.d (At.lent hR_13 2 G G)) ty92) ?_
  refine SR.two (i := 0) (j := 5) kR ⟨_, G, ?_⟩ ⟨_, G, ?_⟩
  ·
   refine st_lit eVis (e := 92) (l := []) G G G G kR G G kW (fun b14 => ⟨tt0, ?_⟩)
   refine SR.two (i := 3) (j := 5) kR ⟨_, G, ?_⟩ ⟨_, G, ?_⟩
   ·
    refine st_app0 (E := eVis) (m := xv.vl) G G G G underlying52 ai92 G G G .h rO (Src.w (Fr.flat (VLF.mem (VLF.lent (S := S) hR_13 7 G) hm))) lO G (fun v15 => ⟨tt0, ?_⟩)
    refine SR.o 5 G (st_lit eVis (e := 92) (l := [(gt all i)]) G G G G kR G G kW (fun b16 => ⟨tt0, ?_⟩))
    refine SR.o 6 G (st_app (E := eVis) (m := [(gt all i)]) G G G G underlying52 ai92 G G G (.t .h) rO (row_src 0 G) lO G (fun v17 => ⟨tt0, ?_⟩))
    refine SR.z 7 G G (ev_fa G fo132_3 G (r := 5) G) ?_
    refine .know (row_len 0 G) (fun hv20 => ?_)
    obtain ⟨A18, c19, rfl, hv20_1, hv20_2⟩ := hv20
    unfold maxLen at hv20_2
    refine SR.o 8 G (st_store1 G G G ty52 G G G (.t2 .h) (.t4 (.t .h)) ⟨tt0, ?_⟩)
    refine SR.fin kR hl_13 hx_13 hR_13 (.c (.c (.c .n))) ?_
    refine SQ.go idQ ?_
    refine .know (row_form 1 G (by simp)) (fun hv23 => ?_)
    obtain ⟨g21, c22, hv23, hv23_1, hv23_2⟩ := hv23
    injection hv23 with eA _ _; subst eA
    refine SC.packVL (VL.mk (xv.vl ++ [(gt all i)]) (some ⟨g21, 0, none⟩) c19) (.c (.t4 (.t4 (.t2 .h))) (.c (.t .h) .n)) (by (try simp only [List.length_append, List.length_singleton]); omega) ?_
    have hxw : XI (CX.mk p v all fst) (F - 1) (RS.mk (bor .i64 dn (shlI 1 i)) bk (stopD p (gt all i)).pl ((startF (stopD p (gt all i)).sws (nw + cellF p.tn p.time pl (stopD p (gt all i)).pl)).1 + (stopD p (gt all i)).srv) (cs + cellF p.tn p.time pl (stopD p (gt all i)).pl * v.pt + cellF p.dn p.dist pl (stopD p (gt all i)).pl * v.pd)) (VL.mk (xv.vl ++ [(gt all i)]) (some ⟨g21, 0, none⟩) c19) := by rw [hset]; exact XI.vis hO hx hund hi.1 hi.2 hvo rfl rfl
    have hf1 := hxw.f0
    refine .region (.m G G G (.d 1 ty132 G G G G (.cons (st_call0 G G G G hbd54 G (.c (.t4 (.t2 (.t .h))) (.c (.t4 (.t2 (.t .h))) (.c (.t4 (.t2 (.t .h))) (.c .h .n)))) (hG p v b aA ac all fA fc fst mb_ B c (bor .i64 dn (shlI 1 i)) bk ((stopD p (gt all i)).pl) (((startF ((stopD p (gt all i)).sws) (nw + (cellF p.tn p.time pl ((stopD p (gt all i)).pl)))).1) + ((stopD p (gt all i)).srv)) ((cs + ((cellF p.tn p.time pl ((stopD p (gt all i)).pl)) * v.pt)) + ((cellF p.dn p.dist pl ((stopD p (gt all i)).pl)) * v.pd)) (VL.mk (xv.vl ++ [(gt all i)]) (some ⟨g21, 0, none⟩) c19) (P ++ [(VL.mk (xv.vl ++ [(gt all i)]) (some ⟨g21, 0, none⟩) c19)]) M (F - 1) t _ _ hA hF hPB hVH hO hf1 oO (hI.pool (fun _ hv_ => List.mem_append_left _ hv_)) hxw (List.mem_append_right _ (List.mem_singleton.2 G)) hbd ht hn0 hfo) (fun v_q28 C_q28 q28 => ?_)))))
    obtain ⟨M224, B225, c226, P227, p29, p30, p31, rfl, rfl⟩ := q28
    show SP _ _ _ _ _ _ ⟨_, _ :: _ :: _ :: _ :: _, _, _⟩
    exact SP.nil (end0 results86 (.d (.d .n)) ⟨M224, B225, c226, P227, p29, (SrS.pool p30 (fun _ hv_ => List.mem_append_left _ hv_)), (fun _ => by have h_ := p31; rw [hset] at h_; exact h_), G, G⟩)
   refine st_lit eVis (e := 92) (l := [(gt all i)]) G G G G kR G G kW (fun b32 => ⟨tt0, ?_⟩)
   refine SR.o 3 G (st_app0 (E := eVis) (m := xv.vl) G G G G underlying52 ai92 G G G (.t .h) rO (Src.w (Fr.flat (VLF.mem (VLF.lent (S := S) hR_13 7 G) hm))) lO G (fun v33 => ⟨tt0, ?_⟩))
   refine SR.o 6 G (st_app (E := eVis) (m := [(gt all i)]) G G G G underlying52 ai92 G G G .h rO (row_src 1 G) lO G (fun v34 => ⟨tt0, ?_⟩))
   refine SR.z 7 G G (ev_fa G fo132_3 G (r := 5) G) ?_
   refine .know (row_len 0 G) (fun hv37 => ?_)
   obtain ⟨A35, c36, rfl, hv37_1, hv37_2⟩ := hv37
   unfold maxLen at hv37_2
   refine SR.o 8 G (st_store1 G G G ty52 G G G (.t2 .h) (.t4 (.t .h)) ⟨tt0, ?_⟩)
   refine SR.fin kR hl_13 hx_13 hR_13 (.c (.c (.c .n))) ?_
   refine SQ.go idQ ?_
   refine .know (row_form 1 G (by simp)) (fun hv40 => ?_)
   obtain ⟨g38, c39, hv40, hv40_1, hv40_2⟩ := hv40
   injection hv40 with eA _ _; subst eA
   refine SC.packVL (VL.mk (xv.vl ++ [(gt all i)]) (some ⟨g38, 0, none⟩) c36) (.c (.t4 (.t4 (.t2 .h))) (.c (.t .h) .n)) (by (try simp only [List.length_append, List.length_singleton]); omega) ?_
   have hxw : XI (CX.mk p v all fst) (F - 1) (RS.mk (bor .i64 dn (shlI 1 i)) bk (stopD p (gt all i)).pl ((startF (stopD p (gt all i)).sws (nw + cellF p.tn p.time pl (stopD p (gt all i)).pl)).1 + (stopD p (gt all i)).srv) (cs + cellF p.tn p.time pl (stopD p (gt all i)).pl * v.pt + cellF p.dn p.dist pl (stopD p (gt all i)).pl * v.pd)) (VL.mk (xv.vl ++ [(gt all i)]) (some ⟨g38, 0, none⟩) c36) := by rw [hset]; exact XI.vis hO hx hund hi.1 hi.2 hvo rfl rfl
   have hf1 := hxw.f0
   refine .region (.m G G G (.d 1 ty132 G G G G (.cons (st_call0 G G G G hbd54 G (.c (.t4 (.t2 (.t .h))) (.c (.t4 (.t2 (.t .h))) (.c (.t4 (.t2 (.t .h))) (.c .h .n)))) (hG p v b aA ac all fA fc fst mb_ B c (bor .i64 dn (shlI 1 i)) bk ((stopD p (gt all i)).pl) (((startF ((stopD p (gt all i)).sws) (nw + (cellF p.tn p.time pl ((stopD p (gt all i)).pl)))).1) + ((stopD p (gt all i)).srv)) ((cs + ((cellF p.tn p.time pl ((stopD p (gt all i)).pl)) * v.pt)) + ((cellF p.dn p.dist pl ((stopD p (gt all i)).pl)) * v.pd)) (VL.mk (xv.vl ++ [(gt all i)]) (some ⟨g38, 0, none⟩) c36) (P ++ [(VL.mk (xv.vl ++ [(gt all i)]) (some ⟨g38, 0, none⟩) c36)]) M (F - 1) t _ _ hA hF hPB hVH hO hf1 oO (hI.pool (fun _ hv_ => List.mem_append_left _ hv_)) hxw (List.mem_append_right _ (List.mem_singleton.2 G)) hbd ht hn0 hfo) (fun v_q45 C_q45 q45 => ?_)))))
   obtain ⟨M241, B242, c243, P244, p46, p47, p48, rfl, rfl⟩ := q45
   show SP _ _ _ _ _ _ ⟨_, _ :: _ :: _ :: _ :: _, _, _⟩
   exact SP.nil (end0 results86 (.d (.d .n)) ⟨M241, B242, c243, P244, p46, (SrS.pool p47 (fun _ hv_ => List.mem_append_left _ hv_)), (fun _ => by have h_ := p48; rw [hset] at h_; exact h_), G, G⟩)
  refine st_lit eVis (e := 92) (l := [(gt all i)]) G G G G kR G G kW (fun b49 => ⟨tt0, ?_⟩)
  refine SR.o 0 G (st_lit eVis (e := 92) (l := []) G G G G kR G G kW (fun b50 => ⟨tt0, ?_⟩))
  refine SR.o 3 G (st_app0 (E := eVis) (m := xv.vl) G G G G underlying52 ai92 G G G .h rO (Src.w (Fr.flat (VLF.mem (VLF.lent (S := S) hR_13 7 G) hm))) lO G (fun v51 => ⟨tt0, ?_⟩))
  refine SR.o 6 G (st_app (E := eVis) (m := [(gt all i)]) G G G G underlying52 ai92 G G G .h rO (row_src 1 G) lO G (fun v52 => ⟨tt0, ?_⟩))
  refine SR.z 7 G G (ev_fa G fo132_3 G (r := 5) G) ?_
  refine .know (row_len 0 G) (fun hv55 => ?_)
  obtain ⟨A53, c54, rfl, hv55_1, hv55_2⟩ := hv55
  unfold maxLen at hv55_2
  refine SR.o 8 G (st_store1 G G G ty52 G G G (.t2 .h) (.t4 (.t .h)) ⟨tt0, ?_⟩)
  refine SR.fin kR hl_13 hx_13 hR_13 (.c (.c (.c .n))) ?_
  refine SQ.go idQ ?_
  refine .know (row_form 1 G (by simp)) (fun hv58 => ?_)
  obtain ⟨g56, c57, hv58, hv58_1, hv58_2⟩ := hv58
  injection hv58 with eA _ _; subst eA
  refine SC.packVL (VL.mk (xv.vl ++ [(gt all i)]) (some ⟨g56, 0, none⟩) c54) (.c (.t4 (.t4 (.t2 .h))) (.c (.t .h) .n)) (by (try simp only [List.length_append, List.length_singleton]); omega) ?_
  have hxw : XI (CX.mk p v all fst) (F - 1) (RS.mk (bor .i64 dn (shlI 1 i)) bk (stopD p (gt all i)).pl ((startF (stopD p (gt all i)).sws (nw + cellF p.tn p.time pl (stopD p (gt all i)).pl)).1 + (stopD p (gt all i)).srv) (cs + cellF p.tn p.time pl (stopD p (gt all i)).pl * v.pt + cellF p.dn p.dist pl (stopD p (gt all i)).pl * v.pd)) (VL.mk (xv.vl ++ [(gt all i)]) (some ⟨g56, 0, none⟩) c54) := by rw [hset]; exact XI.vis hO hx hund hi.1 hi.2 hvo rfl rfl
  have hf1 := hxw.f0
  refine .region (.m G G G (.d 1 ty132 G G G G (.cons (st_call0 G G G G hbd54 G (.c (.t4 (.t2 (.t .h))) (.c (.t4 (.t2 (.t .h))) (.c (.t4 (.t2 (.t .h))) (.c .h .n)))) (hG p v b aA ac all fA fc fst mb_ B c (bor .i64 dn (shlI 1 i)) bk ((stopD p (gt all i)).pl) (((startF ((stopD p (gt all i)).sws) (nw + (cellF p.tn p.time pl ((stopD p (gt all i)).pl)))).1) + ((stopD p (gt all i)).srv)) ((cs + ((cellF p.tn p.time pl ((stopD p (gt all i)).pl)) * v.pt)) + ((cellF p.dn p.dist pl ((stopD p (gt all i)).pl)) * v.pd)) (VL.mk (xv.vl ++ [(gt all i)]) (some ⟨g56, 0, none⟩) c54) (P ++ [(VL.mk (xv.vl ++ [(gt all i)]) (some ⟨g56, 0, none⟩) c54)]) M (F - 1) t _ _ hA hF hPB hVH hO hf1 oO (hI.pool (fun _ hv_ => List.mem_append_left _ hv_)) hxw (List.mem_append_right _ (List.mem_singleton.2 G)) hbd ht hn0 hfo) (fun v_q63 C_q63 q63 => ?_)))))
  obtain ⟨M259, B260, c261, P262, p64, p65, p66, rfl, rfl⟩ := q63
  show SP _ _ _ _ _ _ ⟨_, _ :: _ :: _ :: _ :: _, _, _⟩
  exact SP.nil (end0 results86 (.d (.d .n)) ⟨M259, B260, c261, P262, p64, (SrS.pool p65 (fun _ hv_ => List.mem_append_left _ hv_)), (fun _ => by have h_ := p66; rw [hset] at h_; exact h_), G, G⟩)
 refine SR.join (X := Nat × (Option Addr) × Nat) (fun (zb67, zA68, zc69) => ([(0, .pointer (some ⟨b, 0, none⟩)), (2, .int .i64 i), (5, .pointer (some ⟨b1, 0, none⟩)), (7, .pointer (some ⟨b2, 0, none⟩)), (22, .agg #[.int .i64 ((stopD p (gt all i)).pl), .int .i64 ((stopD p (gt all i)).srv), .slice zA68 (((stopD p (gt all i)).sws).length) zc69]), (23, .bool (isStop p (gt all i))), (8, .pointer (some ⟨zb67, 0, none⟩))], [cel zb67 [.int .i64 0, .int .i64 0, .slice none 0 0] 78, rw_ eWN 69 (.slice zA68 (((stopD p (gt all i)).sws).length) zc69) ((stopD p (gt all i)).sws)])) 2 #[true, true, true, true, true, true, true, true, true, true, false, false] (fun ⟨zb67, zA68, zc69⟩ => ?_) (fun key70 => ?_)
 ·
  show SR _ _ _ _ _ _ _ _ _ ⟨[(0, .pointer (some ⟨b, 0, none⟩)), (2, .int .i64 i), (5, .pointer (some ⟨b1, 0, none⟩)), (7, .pointer (some ⟨b2, 0, none⟩)), (22, .agg #[.int .i64 ((stopD p (gt all i)).pl), .int .i64 ((stopD p (gt all i)).srv), .slice zA68 (((stopD p (gt all i)).sws).length) zc69]), (23, .bool (isStop p (gt all i))), (8, .pointer (some ⟨zb67, 0, none⟩))], [cel zb67 [.int .i64 0, .int .i64 0, .slice none 0 0] 78, rw_ eWN 69 (.slice zA68 (((stopD p (gt all i)).sws).length) zc69) ((stopD p (gt all i)).sws)], _, _⟩
  refine SR.o 10 G (st_storea (l' := [.int .i64 ((stopD p (gt all i)).pl), .int .i64 ((stopD p (gt all i)).srv), .slice zA68 (((stopD p (gt all i)).sws).length) zc69]) G G G ty78 G G G .h G G ⟨tt0, ?_⟩)
  refine SR.z 11 G G (ev_as G G) ?_
  refine SR.fin kR hl_3 hx_3 hR_3 (.c (.c .n)) ?_
  exact SQ.weak (key7 (zb67, zA68, zc69)) (Sub.get (.c4 G G G G (.c G .n))) (kp (.d (.d (.d (.d .n)))))
 refine SR.m 0 G G G G ?_
 refine SR.z 1 G G (ev_nil G G) ?_
 refine SR.z 2 G G (ev_fa G fo123_0 G (r := 0) G) ?_
 refine SR.z 3 G G (ev_lda (cs := (cPB p)) G G (At.d (At.lent hR_3 2 G G)) ty29) ?_
 refine SR.z 4 G G (ev_lda (cs := [.int .i64 ((gt all i).kind), .int .i64 ((gt all i).item)]) G G (At.d (At.lent hR_3 0 G G)) ty92) ?_
 refine SR.two (i := 5) (j := 9) kR ⟨_, G, ?_⟩ ⟨_, G, ?_⟩
 ·
  refine st_call0 G G G G hbd123 G .n (stop_ p (gt all i) _ _ ((hPB).ext hx_3) (stop_ws hL)) (fun v_q72 C_q72 q72 => ⟨tt0, ?_⟩)
  obtain ⟨u71, rfl, rfl⟩ := q72
  show SR _ _ _ _ _ _ _ _ _ ⟨_, _ :: _, _, _⟩
  refine .know (row_len 0 G) (fun hv75 => ?_)
  obtain ⟨A73, c74, rfl, hv75_1, hv75_2⟩ := hv75
  unfold maxLen at hv75_2
  refine SR.m 6 G G G G ?_
  refine SR.z 7 G G (ev_ext G G G) ?_
  refine SR.z 8 G G (ev_ext G G G) ?_
  refine SR.o 9 G (st_alloc G G G G zf78 (fun b76 => ⟨tt0, ?_⟩))
  exact SR.weakj (key70 (b76, A73, c74)) kR (Sub.get (.c4 G G G G (.c G (.c G (.c G .n))))) (kp (.d .n))
 refine st_alloc G G G G zf78 (fun b77 => ⟨tt0, ?_⟩)
 refine SR.o 5 G (st_call0 G G G G hbd123 G .n (stop_ p (gt all i) _ _ ((hPB).ext hx_3) (stop_ws hL)) (fun v_q79 C_q79 q79 => ⟨tt0, ?_⟩))
 obtain ⟨u78, rfl, rfl⟩ := q79
 show SR _ _ _ _ _ _ _ _ _ ⟨_, _ :: _, _, _⟩
 refine .know (row_len 0 G) (fun hv82 => ?_)
 obtain ⟨A80, c81, rfl, hv82_1, hv82_2⟩ := hv82
 unfold maxLen at hv82_2
 refine SR.m 6 G G G G ?_
 refine SR.z 7 G G (ev_ext G G G) ?_
 refine SR.z 8 G G (ev_ext G G G) ?_
 exact SR.weakj (key70 (b77, A80, c81)) kR (Sub.get (.c4 G G G G (.c G (.c G (.c G .n))))) (kp (.c (.t .h) (.c .h .n)))
end Go.Proofs.YtimhdimhdimbjaaGreat.Sx
set_option maxRecDepth 20000
set_option maxHeartbeats 1000000
namespace Go.Proofs.YtimhdimhdimbjaaGreat.Sx.FEC
open Go Go.SX Go.Proofs Go.Proofs.Tryz FA FB FC FD FE FF FG FH FJ FK FL FM FP FQ FU FW FEA FEB
theorem fo123_4 : fo prog 123 4 = some 21 := by kernel_rfl
theorem ty121 : ty prog 121 = some (false, 1) := by kernel_rfl
theorem ty130 : ty prog 130 = some (true, 3) := by kernel_rfl
theorem zv164 : (prog.info? 164).bind (fun i => i.zero) = some (.slice none 0 0) := by kernel_rfl
theorem ai132 : (prog.info? 132).map (fun i => (i.zero, i.size, i.bytes)) = some (some (.agg #[.int .i64 0, .int .i64 0, .int .i64 0, .int .i64 0, .int .i64 0, .slice none 0 0]), 6, 64) := by kernel_rfl
theorem hbd83 : hasBody prog 83 = true := by kernel_rfl
theorem hbd84 : hasBody prog 84 = true := by kernel_rfl
theorem zf75 : (prog.info? 75).bind (fun i => i.zero.map Value.cells) = some (List.toArray [.slice none 0 0, .int .i64 0]) := by kernel_rfl
theorem hbd86 : hasBody prog 86 = true := by kernel_rfl
end Go.Proofs.YtimhdimhdimbjaaGreat.Sx.FEC
namespace Go.Proofs.YtimhdimhdimbjaaGreat.Sx
open Go Go.SX Go.Proofs Go.Proofs.Tryz FA FB FC FD FE FF FG FH FJ FK FL FM FP FQ FU FW FEA FEB FEC
theorem grow_ : ∀ (f : Nat) (p : PB) (v : VH) (b : Nat) (aA : Option Addr) (ac : Nat) (all : List Vis) (fA : Option Addr) (fc : Nat) (fst : List Int) (mb_ : Nat) (B : VL) (c : Int) (dn : Int) (bk : Int) (pl : Int) (nw : Int) (cs : Int) (xv : VL) (P : List VL) (M : List (KY × LB)) (F : Int) (t : Int) (S : Nat → Prop) (wf : World) (hA : Fr eVis S wf aA all) (hF : Fr eZ S wf fA fst) (hPB : PBF S wf p) (hVH : VHF S wf v) (hO : (CX.mk p v all fst).Ok) (hF0 : 0 ≤ F) (hf : F < f) (hI : SrI (CX.mk p v all fst) F M B c P) (hx : XI (CX.mk p v all fst) F (RS.mk dn bk pl nw cs) xv) (hm : xv ∈ P) (hbd : ∀ κ, ((lbs M κ).length : Int) ≤ t) (ht : t + tp F ≤ 1000000000000) (hn0 : 0 < all.length ∧ all.length ≤ 8) (hfo : lOk p 100000000 fst),
  TR0 prog 54 [.pointer (some ⟨b, 0, none⟩), .agg #[.int .i64 dn, .int .i64 bk, .int .i64 pl, .int .i64 nw, .int .i64 cs, .slice xv.wlA xv.vl.length xv.wlc]] [cel b (cSL p v aA all ac fA fst fc mb_ B c) 123, mp keKY.f lbV mb_ M, nestLB 132 M, nestVL 92 P] S wf (fun v_ C_ => ∃ (M2 : List (KY × LB)) (B2 : VL) (c2 : Int) (P2 : List VL), (SrI (CX.mk p v all fst) F M2 B2 c2 P2) ∧ (SrS (CX.mk p v all fst) F M B c P M2 B2 c2 P2 (tp F)) ∧ (∀ k, CX.Fin (CX.mk p v all fst) (RS.mk dn bk pl nw cs) k → BLe B2 c2 k) ∧ v_ = .tuple #[] ∧ C_ = [cel b (cSL p v aA all ac fA fst fc mb_ B2 c2) 123, mp keKY.f lbV mb_ M2, nestLB 132 M2, nestVL 92 P2]) := by
 refine nat_ind ?_ (fun f ih => ?_)
 · intro p v b aA ac all fA fc fst mb_ B c dn bk pl nw cs xv P M F t S wf hA hF hPB hVH hO hF0 hf hI hx hm hbd ht hn0 hfo; exfalso; omega
 intro p v b aA ac all fA fc fst mb_ B c dn bk pl nw cs xv P M F t S wf hA hF hPB hVH hO hF0 hf hI hx hm hbd ht hn0 hfo
 have hla := hA.len
 have hL : LawP p := hO.law
 have hV : VehOk p.dims p.tn v := hO.veh
 have hn12 : all.length ≤ 12 := hO.len
 have hpt := hV.pt
 have hpd := hV.pd
 have hlb := hVH.2.1.len
 have hcs : 0 ≤ cs ∧ cs ≤ 64000000000000 * (12 - F) := hx.cs
 have hnw : 0 ≤ nw ∧ nw ≤ 2000000 := hx.nw
 have hbk : 0 ≤ bk ∧ bk ≤ (v.brs.length : Int) := hx.bk
 have hdn : 0 ≤ dn ∧ dn < 4096 := ⟨hx.dn.1, by have h_ := hx.dn.2; have h2_ := pow_le8 hn12; have h3_ : dn < ((2 ^ all.length : Nat) : Int) := h_; omega⟩
 have hvl := hx.vl
 have hf0 := hx.f0
 have hdel0 : ∀ i : Int, 0 ≤ i → i < (all.length : Int) → (gt all i).kind = 3 → 1 ≤ i := fun i h0_ h1_ h2_ => (hO.del i h0_ h1_ h2_).1
 have hlv := hA.len
 refine TR.mk func54 G ntmps54 G G (fun w_ => ?_)
 refine .seq (.region (.cons (st_boxa G G G G G (fun b1 => (.go idQ (.seq (.seq ?_)))))))
 refine SC.outLB (KY.mk dn bk pl) hI.nd (.c (.t2 (.t .h)) .n) (fun hll => ?_)
 have hbk2 : (((mget M (KY.mk dn bk pl) dLB).ll.length : Nat) : Int) ≤ t := hbd _
 have htp := tp_0 (f := F)
 refine SC.draw mo [mp keKY.f lbV mb_ M] [] (.c (.t4 .h) .n) (fun _ _ _ => sc0) (fun wf_2 hl_2 hx_2 hR_2 => ?_)
 refine SR.m 0 G G G G ?_
 refine SR.z 1 G G (ev_nil G G) ?_
 refine SR.z 2 G G (ev_fa G fo123_4 G (r := 21) G) ?_
 refine SR.z 3 G G (ev_ld1 G ty121 G (At.d (At.lent hR_2 3 G G))) ?_
 refine SR.z 4 G G (ev_fa G fo132_0 G (r := 0) G) ?_
 refine SR.z 5 G G (ev_lda (cs := [.int .i64 dn, .int .i64 bk, .int .i64 pl]) G G (At.d (At.lent hR_2 2 G G)) ty130) ?_
 refine SR.m 8 G G G G ?_
 refine SR.o 6 G (Ev.step (ev_lkp keKY (m := M) (x := (KY.mk dn bk pl)) (z := dLB) G underlying121 zv164 G G 0 G) G G G ⟨tt0, ?_⟩)
 refine SR.z 7 G G (ev_len G underlying164 G) ?_
 refine SR.fin kR hl_2 hx_2 hR_2 (.c .n) ?_
 refine SQ.go idQ ?_
 refine .block (.loop (X := Int) (fun j => 0 ≤ j ∧ j ≤ (((mget M (KY.mk dn bk pl) dLB).ll.length : Nat) : Int)) (fun j => [(0, .pointer (some ⟨b, 0, none⟩)), (3, .pointer (some ⟨b1, 0, none⟩)), (18, .slice ((mget M (KY.mk dn bk pl) dLB).bA) ((mget M (KY.mk dn bk pl) dLB).ll.length) ((mget M (KY.mk dn bk pl) dLB).bc)), (19, .int .i64 (((mget M (KY.mk dn bk pl) dLB).ll.length : Nat) : Int)), (20, .int .i64 j)]) (fun j => [mp keKY.f lbV mb_ M, rw_ eXS 132 (.slice ((mget M (KY.mk dn bk pl) dLB).bA) ((mget M (KY.mk dn bk pl) dLB).ll.length) ((mget M (KY.mk dn bk pl) dLB).bc)) ((mget M (KY.mk dn bk pl) dLB).ll), restLB 132 M (KY.mk dn bk pl), cel b1 [.int .i64 dn, .int .i64 bk, .int .i64 pl, .int .i64 nw, .int .i64 cs, .slice xv.wlA xv.vl.length xv.wlc] 132, cel b (cSL p v aA all ac fA fst fc mb_ B c) 123, nestVL 92 P]) (fun _ => S) (fun _ => wf) (fun j => ((((mget M (KY.mk dn bk pl) dLB).ll.length : Nat) : Int) - j).toNat) (fun a_ w_ hs_ hw_ => ⟨0, (by (try dsimp only); exact ⟨oO, oO⟩), hs_.mono (Sub.get (.c4 G G G G (.c G .n))), hw_.keep (.d (.d (.d .n)))⟩) (fun j ⟨q_0, q_1⟩ => ?_))
 try dsimp only
 refine .seq (.region (.e G G G G G (.go idQ (.seq (.condI G bD (fun h3 => ?_) (fun h3 => ?_))))))
 ·
  refine .skipgo idQ (.seq (.block (.seq (.region (.v (ev_ix G underlying164 ty132 G G oO oO (row_adr (i := j) 1 G oO lO)) G (.v (ev_lda G G (row_el (E := eXS) (l := (mget M (KY.mk dn bk pl) dLB).ll) (i := j) 1 G oO lO) ty132) G (.cons (st_alloc G G G G zf132 (fun b4 => ?_)))))))))
  refine .cons (st_storea (l' := [.int .i64 ((gt ((mget M (KY.mk dn bk pl) dLB).ll) j).dn), .int .i64 ((gt ((mget M (KY.mk dn bk pl) dLB).ll) j).bk), .int .i64 ((gt ((mget M (KY.mk dn bk pl) dLB).ll) j).pl), .int .i64 ((gt ((mget M (KY.mk dn bk pl) dLB).ll) j).nw), .int .i64 ((gt ((mget M (KY.mk dn bk pl) dLB).ll) j).cs), .slice ((gt ((mget M (KY.mk dn bk pl) dLB).ll) j).xA) ((gt ((mget M (KY.mk dn bk pl) dLB).ll) j).xn) ((gt ((mget M (KY.mk dn bk pl) dLB).ll) j).xc)]) G G G ty132 G G G .h G G ?_)
  refine .go idQ (.seq (.region (.f fo132_1 3 G G G G (.l ty3 0 G G G G G (.f fo132_1 3 G G G G ?_)))))
  refine .l ty3 4 G G G G G (.e G G G G G (.m G G G (.w (fun _ => ev_fa G fo132_2 G (r := 4) G) G ?_)))
  refine .w (fun hb => ev_ld1 G ty3 (lkg G hb) (At.own1 0 G G)) G (.w (fun _ => ev_fa G fo132_2 G (r := 4) G) G (.w (fun hb => ev_ld1 G ty3 (lkg G hb) (At.own1 4 G G)) G (.w (fun hb => ev_cmp G (lkg G hb) (lkg G hb) G) G ?_)))
  refine .v (ev_and G G G G) G (.go idQ (.condI G (bA bD bD) (fun h5 => ?_) (fun h5 => ?_)))
  ·
   refine SC.inLB0 (KY.mk dn bk pl) hI.nd hll (.c (.t2 .h) (.c (.t2 .h) .n)) ?_
   exact .ret idQ (ret0 results54 (.c (.t4 .h) (.c (.t2 .h) (.c .h (.c (.t2 .h) .n)))) ⟨M, B, c, P, hI, (SrS.refl.wk (Int.le_refl _) tp_0), (prune hO hI hx (y := gt (mget M (KY.mk dn bk pl) dLB).ll j) (gt_in oO oO) h5.1 h5.2), G, G⟩)
  refine .skipgo idQ (.region (.p ((j + 1)) oO oO G G G G G (.m G G G ?_)))
  exact SP.nil (SQ.roundb (X := Int) (x := (j)) (j + 1) (by (try dsimp only); exact ⟨oO, oO⟩) (by show (_ : Nat) < _; omega) (Sub.get (.c4 G G G G (.c G .n))) (kp (.c (.t .h) (.c (.t .h) (.c (.t .h) (.c (.t .h) (.c (.t .h) (.c (.t .h) .n))))))))
 refine .exit idQ ?_
 refine .seq ?_
 refine SC.draw mo [mp keKY.f lbV mb_ M, rw_ eXS 132 (.slice ((mget M (KY.mk dn bk pl) dLB).bA) ((mget M (KY.mk dn bk pl) dLB).ll.length) ((mget M (KY.mk dn bk pl) dLB).bc)) ((mget M (KY.mk dn bk pl) dLB).ll)] [] (.d .n) (fun _ _ _ => sc0) (fun wf_6 hl_6 hx_6 hR_6 => ?_)
 refine SR.m 0 G G G G ?_
 refine SR.z 1 G G (ev_nil G G) ?_
 refine SR.z 2 G G (ev_fa G fo123_4 G (r := 21) G) ?_
 refine SR.z 3 G G (ev_ld1 G ty121 G (At.d (At.lent hR_6 2 G G))) ?_
 refine SR.z 4 G G (ev_fa G fo132_0 G (r := 0) G) ?_
 refine SR.z 5 G G (ev_lda (cs := [.int .i64 dn, .int .i64 bk, .int .i64 pl]) G G (At.d (At.lent hR_6 1 G G)) ty130) ?_
 refine SR.z 6 G G (ev_lda (cs := [.int .i64 dn, .int .i64 bk, .int .i64 pl, .int .i64 nw, .int .i64 cs, .slice xv.wlA xv.vl.length xv.wlc]) G G (At.d (At.lent hR_6 1 G G)) ty132) ?_
 refine SR.o 7 G (st_lit eXS (e := 132) (l := [(XS.mk dn bk pl nw cs xv.wlA xv.vl.length xv.wlc)]) G G G G kR G G kW (fun b7 => ⟨tt0, ?_⟩))
 refine SR.o 8 G (st_mapEntryv keKY (x := (KY.mk dn bk pl)) (z := dLB) G G G G underlying121 zv164 G G (.t .h) (fun n8 => ⟨tt0, ?_⟩))
 refine SR.z 9 G G (ev_ext G G G) ?_
 refine SR.z 11 G G (ev_ext G G G) ?_
 refine SR.o 10 G (st_app (E := eXS) (m := [(XS.mk dn bk pl nw cs xv.wlA xv.vl.length xv.wlc)]) G G G G underlying164 ai132 G G G (.t2 .h) rO (row_src 1 G) lO G (fun v9 => ⟨tt0, ?_⟩))
 refine .know (row_len 0 G) (fun hv12 => ?_)
 obtain ⟨A10, c11, rfl, hv12_1, hv12_2⟩ := hv12
 unfold maxLen at hv12_2
 refine SR.o 12 G (st_entryStore keKY (u := undef) (x := (KY.mk dn bk pl)) (v := (LB.mk (((mget M (KY.mk dn bk pl) dLB).ll) ++ [(XS.mk dn bk pl nw cs xv.wlA xv.vl.length xv.wlc)]) A10 c11)) G G G G G G (.t .h) ⟨tt0, ?_⟩)
 refine SR.fin kR hl_6 hx_6 hR_6 (.c (.c (.c .n))) ?_
 refine SQ.go idQ ?_
 refine .seq (.seq ?_)
 refine SC.inLB (KY.mk dn bk pl) (LB.mk (((mget M (KY.mk dn bk pl) dLB).ll) ++ [(XS.mk dn bk pl nw cs xv.wlA xv.vl.length xv.wlc)]) A10 c11) hI.nd (.c (.t .h) (.c (.t2 .h) .n)) G (by simp only [List.length_append, List.length_singleton]; omega) ?_
 have hI1 := sri_add (y := (XS.mk dn bk pl nw cs xv.wlA xv.vl.length xv.wlc)) (A := A10) (cc := c11) hI hx rfl
 have hS1 : SrS (CX.mk p v all fst) (F - 1) (mset (mins M (KY.mk dn bk pl) dLB) (KY.mk dn bk pl) (LB.mk (((mget M (KY.mk dn bk pl) dLB).ll) ++ [(XS.mk dn bk pl nw cs xv.wlA xv.vl.length xv.wlc)]) A10 c11)) B c P (mset (mins M (KY.mk dn bk pl) dLB) (KY.mk dn bk pl) (LB.mk (((mget M (KY.mk dn bk pl) dLB).ll) ++ [(XS.mk dn bk pl nw cs xv.wlA xv.vl.length xv.wlc)]) A10 c11)) B c P 0 := SrS.refl
 refine SC.draw mo [cel b (cSL p v aA all ac fA fst fc mb_ B c) 123] [] (.c (.t4 .h) .n) (fun _ _ _ => sc0) (fun wf_13 hl_13 hx_13 hR_13 => ?_)
 refine SR.cutx (X := Bool × (Option Addr) × Nat) (fun (yo14, yA15, yc16) => ([(0, .pointer (some ⟨b, 0, none⟩)), (3, .pointer (some ⟨b1, 0, none⟩)), (18, .slice ((mget M (KY.mk dn bk pl) dLB).bA) ((mget M (KY.mk dn bk pl) dLB).ll.length) ((mget M (KY.mk dn bk pl) dLB).bc)), (19, .int .i64 (((mget M (KY.mk dn bk pl) dLB).ll.length : Nat) : Int)), (20, .int .i64 j), (21, .bool (decide (j < (((mget M (KY.mk dn bk pl) dLB).ll.length : Nat) : Int)))), (60, .bool (!(underF (abF p dn all 0 fst) v.vcap)))], [cel b (cSL p v aA all ac fA fst fc mb_ B c) 123, mb yo14 (rw_ eZ 3 (.slice yA15 ((abF p dn all 0 fst).length) yc16) (abF p dn all 0 fst)), nestLB 132 (mset (mins M (KY.mk dn bk pl) dLB) (KY.mk dn bk pl) (LB.mk (((mget M (KY.mk dn bk pl) dLB).ll) ++ [(XS.mk dn bk pl nw cs xv.wlA xv.vl.length xv.wlc)]) A10 c11)), mp keKY.f lbV mb_ (mset (mins M (KY.mk dn bk pl) dLB) (KY.mk dn bk pl) (LB.mk (((mget M (KY.mk dn bk pl) dLB).ll) ++ [(XS.mk dn bk pl nw cs xv.wlA xv.vl.length xv.wlc)]) A10 c11)), rw_ eXS 132 (.slice (some ⟨b7, 0, none⟩) 1 1) [(XS.mk dn bk pl nw cs xv.wlA xv.vl.length xv.wlc)], cel b1 [.int .i64 dn, .int .i64 bk, .int .i64 pl, .int .i64 nw, .int .i64 cs, .slice xv.wlA xv.vl.length xv.wlc] 132, nestVL 92 P])) S wf (fun ⟨yo14, yA15, yc16⟩ => ?_) (fun key17 => ?_)
 ·
  try dsimp only
  refine SQ.go idQ ?_
  refine .condI G (bN bV) (fun h18 => ?_) (fun h18 => ?_)
  ·
   exact .ret idQ (ret0 results54 (.c .h (.c (.t2 .h) (.c (.t .h) (.c (.t2 (.t .h)) .n)))) ⟨(mset (mins M (KY.mk dn bk pl) dLB) (KY.mk dn bk pl) (LB.mk (((mget M (KY.mk dn bk pl) dLB).ll) ++ [(XS.mk dn bk pl nw cs xv.wlA xv.vl.length xv.wlc)]) A10 c11)), B, c, P, (sri_done (y := (XS.mk dn bk pl nw cs xv.wlA xv.vl.length xv.wlc)) (A := A10) (cc := c11) hI hx G hI1 hS1 (fin_und (X := (CX.mk p v all fst)) (s := (RS.mk dn bk pl nw cs)) h18)), (srs_done (y := (XS.mk dn bk pl nw cs xv.wlA xv.vl.length xv.wlc)) (A := A10) (cc := c11) hx hS1 (by have := tp_step (f := F) (n := 0) hF0 (by decide) (by decide); have := tp_0 (f := F - 1); omega)), (fin_und (X := (CX.mk p v all fst)) (s := (RS.mk dn bk pl nw cs)) h18), G, G⟩)
  refine .skipgo idQ (.seq ?_)
  have hund : (CX.mk p v all fst).und dn := Classical.not_not.1 h18
  refine .region (.m G G G (.d 5 ty132 G G G G (.cons (st_call0 G G G G hbd84 G (.c .h .n) (end_ p v b aA ac all fA fc fst mb_ B c dn bk pl nw cs xv _ _ hA hF hPB hVH hO hund oO oO hx.wl hn0.1) (fun v_q21 C_q21 q21 => ?_)))))
  obtain ⟨B219, c220, p22, p23, p24, rfl, rfl⟩ := q21
  show SP _ _ _ _ _ _ ⟨_, _ :: _, _, _⟩
  refine .go idQ (.seq (.seq ?_))
  have hI2 : SrI (CX.mk p v all fst) (F - 1) (mset (mins M (KY.mk dn bk pl) dLB) (KY.mk dn bk pl) (LB.mk (((mget M (KY.mk dn bk pl) dLB).ll) ++ [(XS.mk dn bk pl nw cs xv.wlA xv.vl.length xv.wlc)]) A10 c11)) B219 c220 P := hI1.best (fun _ hv_ => hv_) p22 (end_bok (f := F) hI hx hm hn0.1 p24)
  have hS2 : SrS (CX.mk p v all fst) (F - 1) (mset (mins M (KY.mk dn bk pl) dLB) (KY.mk dn bk pl) (LB.mk (((mget M (KY.mk dn bk pl) dLB).ll) ++ [(XS.mk dn bk pl nw cs xv.wlA xv.vl.length xv.wlc)]) A10 c11)) B c P (mset (mins M (KY.mk dn bk pl) dLB) (KY.mk dn bk pl) (LB.mk (((mget M (KY.mk dn bk pl) dLB).ll) ++ [(XS.mk dn bk pl nw cs xv.wlA xv.vl.length xv.wlc)]) A10 c11)) B219 c220 P 0 := ⟨fun _ hv_ => hv_, fun _ _ hy_ => .inr hy_, p22, fun _ => by omega⟩
  refine SC.draw mo [] [] .n (fun _ _ _ => sc0) (fun wf_25 hl_25 hx_25 hR_25 => ?_)
  refine SR.z 0 G G (ev_fa G fo132_0 G (r := 0) G) ?_
  refine SR.z 1 G G (ev_fa G fo130_1 G (r := 1) G) ?_
  refine SR.z 2 G G (ev_ld1 G ty3 G (At.d (At.lent hR_25 5 G G))) ?_
  refine SR.m 3 G G G G ?_
  refine SR.z 4 G G (ev_nil G G) ?_
  refine SR.z 5 G G (ev_fa G fo123_1 G (r := 8) G) ?_
  refine SR.z 6 G G (ev_fa G fo72_9 G (r := 18) G) ?_
  refine SR.z 7 G G (ev_ld1 G ty70 G (At.d (At.lent hR_25 0 G G))) ?_
  refine SR.z 8 G G (ev_len G underlying70 G) ?_
  refine SR.z 9 G G (ev_cmp G G G G) ?_
  refine SR.fin kR hl_25 hx_25 hR_25 .n ?_
  refine SQ.go idQ ?_
  refine .condI G bD (fun h26 => ?_) (fun h26 => ?_)
  ·
   refine .seq ?_
   have hbb := hV.brk bk hbk.1 oO
   refine SC.draw mo [] [] .n (fun _ _ _ => sc0) (fun wf_27 hl_27 hx_27 hR_27 => ?_)
   refine SR.m 0 G G G G ?_
   refine SR.z 1 G G (ev_nil G G) ?_
   refine SR.z 2 G G (ev_fa G fo123_1 G (r := 8) G) ?_
   refine SR.z 3 G G (ev_fa G fo72_9 G (r := 18) G) ?_
   refine SR.z 4 G G (ev_ld1 G ty70 G (At.d (At.lent hR_27 0 G G))) ?_
   refine SR.z 5 G G (ev_fa G fo132_0 G (r := 0) G) ?_
   refine SR.z 6 G G (ev_fa G fo130_1 G (r := 1) G) ?_
   refine SR.z 7 G G (ev_ld1 G ty3 G (At.d (At.lent hR_27 5 G G))) ?_
   refine SR.z 8 G G (ev_ix G underlying70 ty75 G G oO oO (fun _ _ => Fr.adr (i := bk) ((hVH).ext hx_27).2.1 oO oO)) ?_
   refine SR.z 9 G G (ev_lda G G (At.d (Fr.el (i := bk) ((hVH).ext hx_27).2.1 oO oO)) ty75) ?_
   refine SR.o 10 G (st_alloc G G G G zf75 (fun b28 => ⟨tt0, ?_⟩))
   refine SR.o 11 G (st_storea (l' := [.slice ((gt v.brs bk).bwA) ((gt v.brs bk).bws.length) ((gt v.brs bk).bwc), .int .i64 ((gt v.brs bk).bsrv)]) G G G ty75 G G G .h G G ⟨tt0, ?_⟩)
   refine SR.fin kR hl_27 hx_27 hR_27 (.c .n) ?_
   refine SQ.go idQ ?_
   refine .seq (.region (.f fo75_0 0 G G G G (.l ty73 0 G G G G G (.f fo132_1 3 G G G G ?_))))
   refine .l ty3 6 G G G G G (.cons (st_callk G G G G hbd85 G .n (hstart ((gt v.brs bk).bwA) ((gt v.brs bk).bwc) ((gt v.brs bk).bws) nw _ _ (hVH.2.2 bk)) (.m G G G (.x G G G G ?_))))
   refine .x G G G G (.a G G G (.a G G G (.go idQ (.seq (.region ?_)))))
   refine .m G G G (.go idQ (.condI G bV (fun h29 => ?_) (fun h29 => ?_)))
   ·
    refine .seq ?_
    have hbo : (CX.mk p v all fst).brkOk (RS.mk dn bk pl nw cs) := ⟨by show bk < _; omega, h29⟩
    have hxb := XI.brk hO hx hund hbo
    have hst_ := startF_rng hbb.1.each hbo.2
    have hst : 0 ≤ (startF (gt v.brs bk).bws nw).1 ∧ (startF (gt v.brs bk).bws nw).1 ≤ 1000000 := ⟨hst_.1, hst_.2.1⟩
    have hfb := hxb.f0
    have hts := tp_step (f := F) (n := 0) hF0 (by decide) (by decide)
    refine .region (.d 6 ty132 G G G G (.cons (st_alloc G G G G zf132 (fun b30 => (.cons (st_storea (l' := [.int .i64 dn, .int .i64 bk, .int .i64 pl, .int .i64 nw, .int .i64 cs, .slice xv.wlA xv.vl.length xv.wlc]) G G G ty132 G G G .h G G ?_))))))
    refine .go idQ (.seq ?_)
    refine SC.draw mo [cel b30 [.int .i64 dn, .int .i64 bk, .int .i64 pl, .int .i64 nw, .int .i64 cs, .slice xv.wlA xv.vl.length xv.wlc] 132] [] (.c .h .n) (fun _ _ _ => sc0) (fun wf_31 hl_31 hx_31 hR_31 => ?_)
    refine SR.z 0 G G (ev_fa G fo132_0 G (r := 0) G) ?_
    refine SR.z 1 G G (ev_fa G fo130_1 G (r := 1) G) ?_
    refine SR.z 2 G G (ev_ld1 G ty3 G (At.d (At.lent hR_31 6 G G))) ?_
    refine SR.z 3 G G (ev_add G G G (r := (bk + 1)) G oO oO) ?_
    refine SR.m 4 G G G G ?_
    refine SR.z 5 G G (ev_fa G fo75_1 G (r := 1) G) ?_
    refine SR.z 6 G G (ev_ld1 G ty3 G (At.d (At.lent hR_31 0 G G))) ?_
    refine SR.z 7 G G (ev_add G G G (r := (((startF ((gt v.brs bk).bws) nw).1) + ((gt v.brs bk).bsrv))) G oO oO) ?_
    refine SR.z 8 G G (ev_fa G fo132_0 G (r := 0) G) ?_
    refine SR.z 9 G G (ev_fa G fo130_1 G (r := 1) G) ?_
    refine SR.o 10 G (st_store1 G G G ty3 G G G .h (.t .h) ⟨tt0, ?_⟩)
    refine SR.z 11 G G (ev_fa G fo132_1 G (r := 3) G) ?_
    refine SR.o 12 G (st_store1 G G G ty3 G G G .h (.t2 (.t .h)) ⟨tt0, ?_⟩)
    refine SR.fin kR hl_31 hx_31 hR_31 (.c .n) ?_
    refine SQ.go idQ ?_
    refine .region (.m G G G (.d 0 ty132 G G G G (.cons (st_call0 G G G G hbd54 G (.c (.t2 .h) (.c (.t4 .h) (.c (.t2 (.t .h)) (.c (.t4 (.t .h)) .n)))) (ih p v b aA ac all fA fc fst mb_ B219 c220 dn (bk + 1) pl (((startF ((gt v.brs bk).bws) nw).1) + ((gt v.brs bk).bsrv)) cs xv P (mset (mins M (KY.mk dn bk pl) dLB) (KY.mk dn bk pl) (LB.mk (((mget M (KY.mk dn bk pl) dLB).ll) ++ [(XS.mk dn bk pl nw cs xv.wlA xv.vl.length xv.wlc)]) A10 c11)) (F - 1) (t + 1) _ _ hA hF hPB hVH hO oO oO hI2 hxb hm (fun κ_ => by have h_ := cnt_all (y := (XS.mk dn bk pl nw cs xv.wlA xv.vl.length xv.wlc)) (A := A10) (cc := c11) hx hS2 hbd κ_; omega) oO hn0 hfo) (fun v_q36 C_q36 q36 => ?_)))))
    obtain ⟨M232, B233, c234, P235, p37, p38, p39, rfl, rfl⟩ := q36
    show SP _ _ _ _ _ _ ⟨_, _ :: _ :: _ :: _ :: _, _, _⟩
    refine .go idQ (.seq ?_)
    have hI3 := p37
    have hS3 : SrS (CX.mk p v all fst) (F - 1) (mset (mins M (KY.mk dn bk pl) dLB) (KY.mk dn bk pl) (LB.mk (((mget M (KY.mk dn bk pl) dLB).ll) ++ [(XS.mk dn bk pl nw cs xv.wlA xv.vl.length xv.wlc)]) A10 c11)) B c P M232 B233 c234 P235 (tp (F - 1)) := (hS2.trans p38).wk (Int.le_refl _) oO
    have hE3 : (CX.mk p v all fst).EndK (RS.mk dn bk pl nw cs) → BLe B233 c234 ((CX.mk p v all fst).endc (RS.mk dn bk pl nw cs)) := fun e => p38.le _ (p23 e)
    have hB3 : (CX.mk p v all fst).brkOk (RS.mk dn bk pl nw cs) → ∀ k, CX.Fin (CX.mk p v all fst) ((CX.mk p v all fst).brk (RS.mk dn bk pl nw cs)) k → BLe B233 c234 k := fun _ => p39
    refine .region (.m G G G (.v (ev_nil G G) G (.f fo123_2 19 G G G G ?_)))
    refine .l ty52 0 G G G G G (.g underlying52 G G G (.m G G G (.go idQ (.block ?_))))
    refine .loop (X := Int × (List (KY × LB)) × VL × Int × (List VL)) (fun ⟨i, M1, B1, c1, P1⟩ => 0 ≤ i ∧ i ≤ (all.length : Int) ∧ SrI (CX.mk p v all fst) (F - 1) M1 B1 c1 P1 ∧ SrS (CX.mk p v all fst) (F - 1) (mset (mins M (KY.mk dn bk pl) dLB) (KY.mk dn bk pl) (LB.mk (((mget M (KY.mk dn bk pl) dLB).ll) ++ [(XS.mk dn bk pl nw cs xv.wlA xv.vl.length xv.wlc)]) A10 c11)) B c P M1 B1 c1 P1 (tp (F - 1) + i * tp (F - 1)) ∧ ((CX.mk p v all fst).EndK (RS.mk dn bk pl nw cs) → BLe B1 c1 ((CX.mk p v all fst).endc (RS.mk dn bk pl nw cs))) ∧ ((CX.mk p v all fst).brkOk (RS.mk dn bk pl nw cs) → ∀ k, CX.Fin (CX.mk p v all fst) ((CX.mk p v all fst).brk (RS.mk dn bk pl nw cs)) k → BLe B1 c1 k) ∧ (∀ j : Int, 0 ≤ j → j < i → (CX.mk p v all fst).visOk (RS.mk dn bk pl nw cs) j → ∀ k, CX.Fin (CX.mk p v all fst) ((CX.mk p v all fst).vis (RS.mk dn bk pl nw cs) j) k → BLe B1 c1 k)) (fun ⟨i, M1, B1, c1, P1⟩ => [(0, .pointer (some ⟨b, 0, none⟩)), (3, .pointer (some ⟨b1, 0, none⟩)), (18, .slice ((mget M (KY.mk dn bk pl) dLB).bA) ((mget M (KY.mk dn bk pl) dLB).ll.length) ((mget M (KY.mk dn bk pl) dLB).bc)), (19, .int .i64 (((mget M (KY.mk dn bk pl) dLB).ll.length : Nat) : Int)), (20, .int .i64 j), (111, .slice aA all.length ac), (112, .int .i64 (all.length : Int)), (113, .int .i64 i)]) (fun ⟨i, M1, B1, c1, P1⟩ => [cel b (cSL p v aA all ac fA fst fc mb_ B1 c1) 123, mp keKY.f lbV mb_ M1, nestLB 132 M1, nestVL 92 P1, cel b30 [.int .i64 dn, .int .i64 (bk + 1), .int .i64 pl, .int .i64 (((startF ((gt v.brs bk).bws) nw).1) + ((gt v.brs bk).bsrv)), .int .i64 cs, .slice xv.wlA xv.vl.length xv.wlc] 132, cel b28 [.slice ((gt v.brs bk).bwA) ((gt v.brs bk).bws.length) ((gt v.brs bk).bwc), .int .i64 ((gt v.brs bk).bsrv)] 75, mb yo14 (rw_ eZ 3 (.slice yA15 ((abF p dn all 0 fst).length) yc16) (abF p dn all 0 fst)), rw_ eXS 132 (.slice (some ⟨b7, 0, none⟩) 1 1) [(XS.mk dn bk pl nw cs xv.wlA xv.vl.length xv.wlc)], cel b1 [.int .i64 dn, .int .i64 bk, .int .i64 pl, .int .i64 nw, .int .i64 cs, .slice xv.wlA xv.vl.length xv.wlc] 132]) (fun _ => S) (fun _ => wf) (fun ⟨i, M1, B1, c1, P1⟩ => ((all.length : Int) - i).toNat) (fun a_ w_ hs_ hw_ => ⟨⟨0, M232, B233, c234, P235⟩, (by (try dsimp only); exact ⟨by omega, by omega, hI3, hS3.wk (Int.le_refl _) oO, hE3, hB3, fun j j0 j1 => absurd j1 oO⟩), hs_.mono (Sub.get (.c4 G G G G (.c4 G G G G .n))), hw_.keep (.d (.d (.d (.d (.c .h .n)))))⟩) (fun ⟨i, M1, B1, c1, P1⟩ ⟨q_0, q_1, q_2, q_3, q_4, q_5, q_6⟩ => ?_)
    try dsimp only
    have hdel := hdel0 i
    refine .seq (.region (.e G G G G G (.go idQ (.seq (.condI G bD (fun h40 => ?_) (fun h40 => ?_))))))
    ·
     refine .skipgo idQ (.seq (.block (.seq ?_)))
     have hdel1 := hdel oO oO
     have hgi : gt all i ∈ all := gt_in oO oO
     refine .region (.m G G G (.v (ev_ix G underlying52 ty92 G G oO oO (fun _ _ => Fr.adr (i := i) hA oO oO)) G (.v (ev_lda G G (At.w (Fr.el (i := i) hA oO oO)) ty92) G ?_)))
     refine .cons (st_alloc G G G G zf92 (fun b41 => ?_))
     refine .a G G G (.cons (st_storea (l' := [.int .i64 ((gt all i).kind), .int .i64 ((gt all i).item)]) G G G ty92 G G G .h G G (.go idQ (.seq (.region (.f fo132_0 0 G G G G ?_))))))
     refine .f fo130_0 0 G G G G (.l ty3 9 G G G G G (.m G G G (.v (ev_shr (r := (shrI dn i)) G G G oO G) G ?_)))
     refine .v (ev_band G G G) G (.e G G G G G (.m G G G (.w (fun _ => ev_fa G fo92_0 G (r := 0) G) G ?_)))
     refine .w (fun hb => ev_ld1 G ty90 (lkg G hb) (At.own1 0 G G)) G (.w (fun hb => ev_cmp G (lkg G hb) G G) G (.w (fun hb => ev_mv G (lkg G hb)) G (.cons (Ev.ggstep (b1 := ((bnd .i64 (shrI dn i) 1) == 0)) (b := (((gt all i).kind) != 3)) cb_tf (fun hb1 _ => ev_fa G fo132_0 G (r := 0) G) G G G G G ?_))))
     refine .cons (Ev.ggstep (b1 := ((bnd .i64 (shrI dn i) 1) == 0)) (b := (((gt all i).kind) != 3)) cb_tf (fun hb1 hb => ev_fa G fo130_0 (lkg G hb) (r := 0) G) G G G G G ?_)
     refine .cons (Ev.ggstep (b1 := ((bnd .i64 (shrI dn i) 1) == 0)) (b := (((gt all i).kind) != 3)) cb_tf (fun hb1 hb => ev_ld1 G ty3 (lkg G hb) (At.own1 9 G G)) G G G G G ?_)
     refine .cons (Ev.ggstep (b1 := ((bnd .i64 (shrI dn i) 1) == 0)) (b := (((gt all i).kind) != 3)) cb_tf (fun hb1 _ => ev_mv G G) G G G G G ?_)
     refine .cons (Ev.ggstep (b1 := ((bnd .i64 (shrI dn i) 1) == 0)) (b := (((gt all i).kind) != 3)) cb_tf (fun hb1 hb => have hp := bT (bA bE (bN bNE)) hb; ev_sub G (lkg G hb) G (r := (i - 1)) G (by have _h := hp; omega) (by have _h := hp; omega)) G G G G G ?_)
     refine .cons (Ev.ggstep (b1 := ((bnd .i64 (shrI dn i) 1) == 0)) (b := (((gt all i).kind) != 3)) cb_tf (fun hb1 hb => have hp := bT (bA bE (bN bNE)) hb; ev_shr (r := (shrI dn (i - 1))) G (lkg G hb) (lkg G hb) (by have _h := hp; omega) G) G G G G G ?_)
     refine .cons (Ev.ggstep (b1 := ((bnd .i64 (shrI dn i) 1) == 0)) (b := (((gt all i).kind) != 3)) cb_tf (fun hb1 hb => ev_band G (lkg G hb) G) G G G G G ?_)
     refine .cons (Ev.ggstep (b1 := ((bnd .i64 (shrI dn i) 1) == 0)) (b := (((gt all i).kind) != 3)) cb_tf (fun hb1 hb => ev_cmp G (lkg G hb) G G) G G G G G ?_)
     refine .w (fun hb => ev_or G (lkg G hb) G (lkgn G cb_tf hb)) G (.v (ev_and G G G G) G (.go idQ (.condI G (bA bE (bO bNE bNE)) (fun h42 => ?_) (fun h42 => ?_))))
     ·
      have hb1 : bt dn i = false := (bit_0 hdn.1 oO oO oO).1 h42.1
      have hb2 : (gt all i).kind = 3 → bt dn (i - 1) = true := fun h3_ => bit_1 hdn.1 oO (by have := hdel1 h3_; omega) oO (h42.2.resolve_left (fun h4_ => h4_ h3_))
      have hng := nun_get (d := dn) (i := i) oO hb1 (n := all.length) oO
      have hrem : nun dn all.length + ((v.brs.length : Int) - bk) = F := hx.rem
      have htr := t_room ht (tp_step (f := F) (n := 8) hF0 (by decide) (by decide)) (tp_0 (f := F - 1)) (i := i) oO
      refine .region (.m G G G (.d 9 ty132 G G G G (.m G G G ?_)))
      refine .d 0 ty92 G G G G (.cons (st_call0 G G G G hbd86 G (.c (.t .h) (.c (.t .h) (.c (.t .h) (.c (.t .h) .n)))) (step_ f p v b aA ac all fA fc fst mb_ B1 c1 dn bk pl nw cs xv P1 M1 F (t + 1 + (tp (F - 1) + i * tp (F - 1))) i _ _ hA hF hPB hVH hO oO q_2 hx hund (q_3.sub _ hm) (cnt_all (y := (XS.mk dn bk pl nw cs xv.wlA xv.vl.length xv.wlc)) (A := A10) (cc := c11) hx q_3 hbd) htr hn0 hfo oO hb1 hb2 ih) (fun v_q47 C_q47 q47 => ?_)))
      obtain ⟨M243, B244, c245, P246, p48, p49, p50, rfl, rfl⟩ := q47
      show SP _ _ _ _ _ _ ⟨_, _ :: _ :: _ :: _ :: _, _, _⟩
      refine .go idQ (.region (.p ((i + 1)) oO oO G G G G G (.m G G G ?_)))
      exact SP.nil (SQ.roundb (X := Int × (List (KY × LB)) × VL × Int × (List VL)) (x := (i, M1, B1, c1, P1)) ⟨(i + 1), M243, B244, c245, P246⟩ (by (try dsimp only); exact ⟨by omega, by omega, p48, (q_3.trans p49).wk (Int.le_refl _) t_next, fun e => p49.le _ (q_4 e), fun o k hk => p49.le k (q_5 o k hk), (upto_nx (Φ := fun j : Int => (CX.mk p v all fst).visOk (RS.mk dn bk pl nw cs) j → ∀ k, CX.Fin (CX.mk p v all fst) ((CX.mk p v all fst).vis (RS.mk dn bk pl nw cs) j) k → BLe B244 c245 k) (fun j j0 j1 o k hk => p49.le k (q_6 j j0 j1 o k hk)) p50)⟩) dO (Sub.get (.c4 G G G G (.c4 G G G G .n))) (kp (.d (.d (.c (.t .h) (.c (.t .h) (.c (.t .h) (.c (.t .h) (.c (.t .h) .n)))))))))
     refine .skipgo idQ (.region (.p ((i + 1)) oO oO G G G G G (.m G G G ?_)))
     exact SP.nil (SQ.roundb (X := Int × (List (KY × LB)) × VL × Int × (List VL)) (x := (i, M1, B1, c1, P1)) ⟨(i + 1), M1, B1, c1, P1⟩ (by (try dsimp only); exact ⟨by omega, by omega, q_2, q_3.wk (Int.le_refl _) (by have := tp_0 (f := F - 1); have := t_next (T := tp (F - 1)) (i := i); omega), q_4, q_5, (upto_nx (Φ := fun j : Int => (CX.mk p v all fst).visOk (RS.mk dn bk pl nw cs) j → ∀ k, CX.Fin (CX.mk p v all fst) ((CX.mk p v all fst).vis (RS.mk dn bk pl nw cs) j) k → BLe B1 c1 k) q_6 (fun o => absurd o (visO_not (s := (RS.mk dn bk pl nw cs)) hdn.1 (by show dn < _; omega) oO oO (hdel0 i oO oO) h42)))⟩) dO (Sub.get (.c4 G G G G (.c4 G G G G .n))) (kp (.c (.t .h) (.c (.t .h) (.c (.t .h) (.c (.t .h) (.c (.t .h) (.c (.t .h) (.c (.t .h) (.c (.t .h) (.c (.t .h) .n)))))))))))
    exact .exitq idQ (end0 results54 (.d (.d .n)) ⟨M1, B1, c1, P1, (sri_done (y := (XS.mk dn bk pl nw cs xv.wlA xv.vl.length xv.wlc)) (A := A10) (cc := c11) hI hx G q_2 q_3 (fin_all hund q_4 q_5 (fun j j0 j1 => q_6 j j0 (by have j1 : j < (all.length : Int) := j1; omega)))), (srs_done (y := (XS.mk dn bk pl nw cs xv.wlA xv.vl.length xv.wlc)) (A := A10) (cc := c11) hx q_3 (tp_step hF0 oO oO)), (fin_all hund q_4 q_5 (fun j j0 j1 => q_6 j j0 (by have j1 : j < (all.length : Int) := j1; omega))), G, G⟩)
   refine .skipgo idQ (.seq ?_)
   have hI3 := hI2
   have hS3 : SrS (CX.mk p v all fst) (F - 1) (mset (mins M (KY.mk dn bk pl) dLB) (KY.mk dn bk pl) (LB.mk (((mget M (KY.mk dn bk pl) dLB).ll) ++ [(XS.mk dn bk pl nw cs xv.wlA xv.vl.length xv.wlc)]) A10 c11)) B c P (mset (mins M (KY.mk dn bk pl) dLB) (KY.mk dn bk pl) (LB.mk (((mget M (KY.mk dn bk pl) dLB).ll) ++ [(XS.mk dn bk pl nw cs xv.wlA xv.vl.length xv.wlc)]) A10 c11)) B219 c220 P (tp (F - 1)) := hS2.wk (Int.le_refl _) tp_0
   have hE3 : (CX.mk p v all fst).EndK (RS.mk dn bk pl nw cs) → BLe B219 c220 ((CX.mk p v all fst).endc (RS.mk dn bk pl nw cs)) := p23
   have hB3 : (CX.mk p v all fst).brkOk (RS.mk dn bk pl nw cs) → ∀ k, CX.Fin (CX.mk p v all fst) ((CX.mk p v all fst).brk (RS.mk dn bk pl nw cs)) k → BLe B219 c220 k := fun o => absurd o.2 h29
   refine .region (.m G G G (.v (ev_nil G G) G (.f fo123_2 19 G G G G ?_)))
   refine .l ty52 1 G G G G G (.g underlying52 G G G (.m G G G (.go idQ (.block ?_))))
   refine .loop (X := Int × (List (KY × LB)) × VL × Int × (List VL)) (fun ⟨i, M1, B1, c1, P1⟩ => 0 ≤ i ∧ i ≤ (all.length : Int) ∧ SrI (CX.mk p v all fst) (F - 1) M1 B1 c1 P1 ∧ SrS (CX.mk p v all fst) (F - 1) (mset (mins M (KY.mk dn bk pl) dLB) (KY.mk dn bk pl) (LB.mk (((mget M (KY.mk dn bk pl) dLB).ll) ++ [(XS.mk dn bk pl nw cs xv.wlA xv.vl.length xv.wlc)]) A10 c11)) B c P M1 B1 c1 P1 (tp (F - 1) + i * tp (F - 1)) ∧ ((CX.mk p v all fst).EndK (RS.mk dn bk pl nw cs) → BLe B1 c1 ((CX.mk p v all fst).endc (RS.mk dn bk pl nw cs))) ∧ ((CX.mk p v all fst).brkOk (RS.mk dn bk pl nw cs) → ∀ k, CX.Fin (CX.mk p v all fst) ((CX.mk p v all fst).brk (RS.mk dn bk pl nw cs)) k → BLe B1 c1 k) ∧ (∀ j : Int, 0 ≤ j → j < i → (CX.mk p v all fst).visOk (RS.mk dn bk pl nw cs) j → ∀ k, CX.Fin (CX.mk p v all fst) ((CX.mk p v all fst).vis (RS.mk dn bk pl nw cs) j) k → BLe B1 c1 k)) (fun ⟨i, M1, B1, c1, P1⟩ => [(0, .pointer (some ⟨b, 0, none⟩)), (3, .pointer (some ⟨b1, 0, none⟩)), (18, .slice ((mget M (KY.mk dn bk pl) dLB).bA) ((mget M (KY.mk dn bk pl) dLB).ll.length) ((mget M (KY.mk dn bk pl) dLB).bc)), (19, .int .i64 (((mget M (KY.mk dn bk pl) dLB).ll.length : Nat) : Int)), (20, .int .i64 j), (111, .slice aA all.length ac), (112, .int .i64 (all.length : Int)), (113, .int .i64 i)]) (fun ⟨i, M1, B1, c1, P1⟩ => [cel b28 [.slice ((gt v.brs bk).bwA) ((gt v.brs bk).bws.length) ((gt v.brs bk).bwc), .int .i64 ((gt v.brs bk).bsrv)] 75, cel b (cSL p v aA all ac fA fst fc mb_ B1 c1) 123, mb yo14 (rw_ eZ 3 (.slice yA15 ((abF p dn all 0 fst).length) yc16) (abF p dn all 0 fst)), nestLB 132 M1, mp keKY.f lbV mb_ M1, rw_ eXS 132 (.slice (some ⟨b7, 0, none⟩) 1 1) [(XS.mk dn bk pl nw cs xv.wlA xv.vl.length xv.wlc)], cel b1 [.int .i64 dn, .int .i64 bk, .int .i64 pl, .int .i64 nw, .int .i64 cs, .slice xv.wlA xv.vl.length xv.wlc] 132, nestVL 92 P1]) (fun _ => S) (fun _ => wf) (fun ⟨i, M1, B1, c1, P1⟩ => ((all.length : Int) - i).toNat) (fun a_ w_ hs_ hw_ => ⟨⟨0, (mset (mins M (KY.mk dn bk pl) dLB) (KY.mk dn bk pl) (LB.mk (((mget M (KY.mk dn bk pl) dLB).ll) ++ [(XS.mk dn bk pl nw cs xv.wlA xv.vl.length xv.wlc)]) A10 c11)), B219, c220, P⟩, (by (try dsimp only); exact ⟨by omega, by omega, hI3, hS3.wk (Int.le_refl _) oO, hE3, hB3, fun j j0 j1 => absurd j1 oO⟩), hs_.mono (Sub.get (.c4 G G G G (.c4 G G G G .n))), hw_.keep (.d (.d (.d (.d .n))))⟩) (fun ⟨i, M1, B1, c1, P1⟩ ⟨q_0, q_1, q_2, q_3, q_4, q_5, q_6⟩ => ?_)
   try dsimp only
   have hdel := hdel0 i
   refine .seq (.region (.e G G G G G (.go idQ (.seq (.condI G bD (fun h51 => ?_) (fun h51 => ?_))))))
   ·
    refine .skipgo idQ (.seq (.block (.seq ?_)))
    have hdel1 := hdel oO oO
    have hgi : gt all i ∈ all := gt_in oO oO
    refine .region (.m G G G (.v (ev_ix G underlying52 ty92 G G oO oO (fun _ _ => Fr.adr (i := i) hA oO oO)) G (.v (ev_lda G G (At.w (Fr.el (i := i) hA oO oO)) ty92) G ?_)))
    refine .cons (st_alloc G G G G zf92 (fun b52 => ?_))
    refine .a G G G (.cons (st_storea (l' := [.int .i64 ((gt all i).kind), .int .i64 ((gt all i).item)]) G G G ty92 G G G .h G G (.go idQ (.seq (.region (.f fo132_0 0 G G G G ?_))))))
    refine .f fo130_0 0 G G G G (.l ty3 7 G G G G G (.m G G G (.v (ev_shr (r := (shrI dn i)) G G G oO G) G ?_)))
    refine .v (ev_band G G G) G (.e G G G G G (.m G G G (.w (fun _ => ev_fa G fo92_0 G (r := 0) G) G ?_)))
    refine .w (fun hb => ev_ld1 G ty90 (lkg G hb) (At.own1 0 G G)) G (.w (fun hb => ev_cmp G (lkg G hb) G G) G (.w (fun hb => ev_mv G (lkg G hb)) G (.cons (Ev.ggstep (b1 := ((bnd .i64 (shrI dn i) 1) == 0)) (b := (((gt all i).kind) != 3)) cb_tf (fun hb1 _ => ev_fa G fo132_0 G (r := 0) G) G G G G G ?_))))
    refine .cons (Ev.ggstep (b1 := ((bnd .i64 (shrI dn i) 1) == 0)) (b := (((gt all i).kind) != 3)) cb_tf (fun hb1 hb => ev_fa G fo130_0 (lkg G hb) (r := 0) G) G G G G G ?_)
    refine .cons (Ev.ggstep (b1 := ((bnd .i64 (shrI dn i) 1) == 0)) (b := (((gt all i).kind) != 3)) cb_tf (fun hb1 hb => ev_ld1 G ty3 (lkg G hb) (At.own1 7 G G)) G G G G G ?_)
    refine .cons (Ev.ggstep (b1 := ((bnd .i64 (shrI dn i) 1) == 0)) (b := (((gt all i).kind) != 3)) cb_tf (fun hb1 _ => ev_mv G G) G G G G G ?_)
    refine .cons (Ev.ggstep (b1 := ((bnd .i64 (shrI dn i) 1) == 0)) (b := (((gt all i).kind) != 3)) cb_tf (fun hb1 hb => have hp := bT (bA bE (bN bNE)) hb; ev_sub G (lkg G hb) G (r := (i - 1)) G (by have _h := hp; omega) (by have _h := hp; omega)) G G G G G ?_)
    refine .cons (Ev.ggstep (b1 := ((bnd .i64 (shrI dn i) 1) == 0)) (b := (((gt all i).kind) != 3)) cb_tf (fun hb1 hb => have hp := bT (bA bE (bN bNE)) hb; ev_shr (r := (shrI dn (i - 1))) G (lkg G hb) (lkg G hb) (by have _h := hp; omega) G) G G G G G ?_)
    refine .cons (Ev.ggstep (b1 := ((bnd .i64 (shrI dn i) 1) == 0)) (b := (((gt all i).kind) != 3)) cb_tf (fun hb1 hb => ev_band G (lkg G hb) G) G G G G G ?_)
    refine .cons (Ev.ggstep (b1 := ((bnd .i64 (shrI dn i) 1) == 0)) (b := (((gt all i).kind) != 3)) cb_tf (fun hb1 hb => ev_cmp G (lkg G hb) G G) G G G G G ?_)
    refine .w (fun hb => ev_or G (lkg G hb) G (lkgn G cb_tf hb)) G (.v (ev_and G G G G) G (.go idQ (.condI G (bA bE (bO bNE bNE)) (fun h53 => ?_) (fun h53 => ?_))))
    ·
     have hb1 : bt dn i = false := (bit_0 hdn.1 oO oO oO).1 h53.1
     have hb2 : (gt all i).kind = 3 → bt dn (i - 1) = true := fun h3_ => bit_1 hdn.1 oO (by have := hdel1 h3_; omega) oO (h53.2.resolve_left (fun h4_ => h4_ h3_))
     have hng := nun_get (d := dn) (i := i) oO hb1 (n := all.length) oO
     have hrem : nun dn all.length + ((v.brs.length : Int) - bk) = F := hx.rem
     have htr := t_room ht (tp_step (f := F) (n := 8) hF0 (by decide) (by decide)) (tp_0 (f := F - 1)) (i := i) oO
     refine .region (.m G G G (.d 7 ty132 G G G G (.m G G G ?_)))
     refine .d 0 ty92 G G G G (.cons (st_call0 G G G G hbd86 G (.c (.t2 .h) (.c (.t4 .h) (.c (.t2 (.t .h)) (.c (.t4 (.t .h)) .n)))) (step_ f p v b aA ac all fA fc fst mb_ B1 c1 dn bk pl nw cs xv P1 M1 F (t + 1 + (tp (F - 1) + i * tp (F - 1))) i _ _ hA hF hPB hVH hO oO q_2 hx hund (q_3.sub _ hm) (cnt_all (y := (XS.mk dn bk pl nw cs xv.wlA xv.vl.length xv.wlc)) (A := A10) (cc := c11) hx q_3 hbd) htr hn0 hfo oO hb1 hb2 ih) (fun v_q58 C_q58 q58 => ?_)))
     obtain ⟨M254, B255, c256, P257, p59, p60, p61, rfl, rfl⟩ := q58
     show SP _ _ _ _ _ _ ⟨_, _ :: _ :: _ :: _ :: _, _, _⟩
     refine .go idQ (.region (.p ((i + 1)) oO oO G G G G G (.m G G G ?_)))
     exact SP.nil (SQ.roundb (X := Int × (List (KY × LB)) × VL × Int × (List VL)) (x := (i, M1, B1, c1, P1)) ⟨(i + 1), M254, B255, c256, P257⟩ (by (try dsimp only); exact ⟨by omega, by omega, p59, (q_3.trans p60).wk (Int.le_refl _) t_next, fun e => p60.le _ (q_4 e), fun o k hk => p60.le k (q_5 o k hk), (upto_nx (Φ := fun j : Int => (CX.mk p v all fst).visOk (RS.mk dn bk pl nw cs) j → ∀ k, CX.Fin (CX.mk p v all fst) ((CX.mk p v all fst).vis (RS.mk dn bk pl nw cs) j) k → BLe B255 c256 k) (fun j j0 j1 o k hk => p60.le k (q_6 j j0 j1 o k hk)) p61)⟩) dO (Sub.get (.c4 G G G G (.c4 G G G G .n))) (kp (.c (.t4 (.t .h)) (.c .h (.c (.t4 .h) (.c (.t .h) (.c .h (.c (.t2 .h) (.c (.t2 .h) (.c .h .n))))))))))
    refine .skipgo idQ (.region (.p ((i + 1)) oO oO G G G G G (.m G G G ?_)))
    exact SP.nil (SQ.roundb (X := Int × (List (KY × LB)) × VL × Int × (List VL)) (x := (i, M1, B1, c1, P1)) ⟨(i + 1), M1, B1, c1, P1⟩ (by (try dsimp only); exact ⟨by omega, by omega, q_2, q_3.wk (Int.le_refl _) (by have := tp_0 (f := F - 1); have := t_next (T := tp (F - 1)) (i := i); omega), q_4, q_5, (upto_nx (Φ := fun j : Int => (CX.mk p v all fst).visOk (RS.mk dn bk pl nw cs) j → ∀ k, CX.Fin (CX.mk p v all fst) ((CX.mk p v all fst).vis (RS.mk dn bk pl nw cs) j) k → BLe B1 c1 k) q_6 (fun o => absurd o (visO_not (s := (RS.mk dn bk pl nw cs)) hdn.1 (by show dn < _; omega) oO oO (hdel0 i oO oO) h53)))⟩) dO (Sub.get (.c4 G G G G (.c4 G G G G .n))) (kp (.c (.t .h) (.c (.t .h) (.c (.t .h) (.c (.t .h) (.c (.t .h) (.c (.t .h) (.c (.t .h) (.c (.t .h) .n))))))))))
   exact .exitq idQ (end0 results54 (.c (.t .h) (.c (.t2 (.t .h)) (.c (.t2 .h) (.c (.t4 .h) .n)))) ⟨M1, B1, c1, P1, (sri_done (y := (XS.mk dn bk pl nw cs xv.wlA xv.vl.length xv.wlc)) (A := A10) (cc := c11) hI hx G q_2 q_3 (fin_all hund q_4 q_5 (fun j j0 j1 => q_6 j j0 (by have j1 : j < (all.length : Int) := j1; omega)))), (srs_done (y := (XS.mk dn bk pl nw cs xv.wlA xv.vl.length xv.wlc)) (A := A10) (cc := c11) hx q_3 (tp_step hF0 oO oO)), (fin_all hund q_4 q_5 (fun j j0 j1 => q_6 j j0 (by have j1 : j < (all.length : Int) := j1; omega))), G, G⟩)
  refine .skipgo idQ (.seq ?_)
  have hI3 := hI2
  have hS3 : SrS (CX.mk p v all fst) (F - 1) (mset (mins M (KY.mk dn bk pl) dLB) (KY.mk dn bk pl) (LB.mk (((mget M (KY.mk dn bk pl) dLB).ll) ++ [(XS.mk dn bk pl nw cs xv.wlA xv.vl.length xv.wlc)]) A10 c11)) B c P (mset (mins M (KY.mk dn bk pl) dLB) (KY.mk dn bk pl) (LB.mk (((mget M (KY.mk dn bk pl) dLB).ll) ++ [(XS.mk dn bk pl nw cs xv.wlA xv.vl.length xv.wlc)]) A10 c11)) B219 c220 P (tp (F - 1)) := hS2.wk (Int.le_refl _) tp_0
  have hE3 : (CX.mk p v all fst).EndK (RS.mk dn bk pl nw cs) → BLe B219 c220 ((CX.mk p v all fst).endc (RS.mk dn bk pl nw cs)) := p23
  have hB3 : (CX.mk p v all fst).brkOk (RS.mk dn bk pl nw cs) → ∀ k, CX.Fin (CX.mk p v all fst) ((CX.mk p v all fst).brk (RS.mk dn bk pl nw cs)) k → BLe B219 c220 k := fun o => absurd o.1 (by show ¬ bk < _; omega)
  refine .region (.m G G G (.v (ev_nil G G) G (.f fo123_2 19 G G G G ?_)))
  refine .l ty52 0 G G G G G (.g underlying52 G G G (.m G G G (.go idQ (.block ?_))))
  refine .loop (X := Int × (List (KY × LB)) × VL × Int × (List VL)) (fun ⟨i, M1, B1, c1, P1⟩ => 0 ≤ i ∧ i ≤ (all.length : Int) ∧ SrI (CX.mk p v all fst) (F - 1) M1 B1 c1 P1 ∧ SrS (CX.mk p v all fst) (F - 1) (mset (mins M (KY.mk dn bk pl) dLB) (KY.mk dn bk pl) (LB.mk (((mget M (KY.mk dn bk pl) dLB).ll) ++ [(XS.mk dn bk pl nw cs xv.wlA xv.vl.length xv.wlc)]) A10 c11)) B c P M1 B1 c1 P1 (tp (F - 1) + i * tp (F - 1)) ∧ ((CX.mk p v all fst).EndK (RS.mk dn bk pl nw cs) → BLe B1 c1 ((CX.mk p v all fst).endc (RS.mk dn bk pl nw cs))) ∧ ((CX.mk p v all fst).brkOk (RS.mk dn bk pl nw cs) → ∀ k, CX.Fin (CX.mk p v all fst) ((CX.mk p v all fst).brk (RS.mk dn bk pl nw cs)) k → BLe B1 c1 k) ∧ (∀ j : Int, 0 ≤ j → j < i → (CX.mk p v all fst).visOk (RS.mk dn bk pl nw cs) j → ∀ k, CX.Fin (CX.mk p v all fst) ((CX.mk p v all fst).vis (RS.mk dn bk pl nw cs) j) k → BLe B1 c1 k)) (fun ⟨i, M1, B1, c1, P1⟩ => [(0, .pointer (some ⟨b, 0, none⟩)), (3, .pointer (some ⟨b1, 0, none⟩)), (18, .slice ((mget M (KY.mk dn bk pl) dLB).bA) ((mget M (KY.mk dn bk pl) dLB).ll.length) ((mget M (KY.mk dn bk pl) dLB).bc)), (19, .int .i64 (((mget M (KY.mk dn bk pl) dLB).ll.length : Nat) : Int)), (20, .int .i64 j), (111, .slice aA all.length ac), (112, .int .i64 (all.length : Int)), (113, .int .i64 i)]) (fun ⟨i, M1, B1, c1, P1⟩ => [cel b (cSL p v aA all ac fA fst fc mb_ B1 c1) 123, mb yo14 (rw_ eZ 3 (.slice yA15 ((abF p dn all 0 fst).length) yc16) (abF p dn all 0 fst)), nestLB 132 M1, mp keKY.f lbV mb_ M1, rw_ eXS 132 (.slice (some ⟨b7, 0, none⟩) 1 1) [(XS.mk dn bk pl nw cs xv.wlA xv.vl.length xv.wlc)], cel b1 [.int .i64 dn, .int .i64 bk, .int .i64 pl, .int .i64 nw, .int .i64 cs, .slice xv.wlA xv.vl.length xv.wlc] 132, nestVL 92 P1]) (fun _ => S) (fun _ => wf) (fun ⟨i, M1, B1, c1, P1⟩ => ((all.length : Int) - i).toNat) (fun a_ w_ hs_ hw_ => ⟨⟨0, (mset (mins M (KY.mk dn bk pl) dLB) (KY.mk dn bk pl) (LB.mk (((mget M (KY.mk dn bk pl) dLB).ll) ++ [(XS.mk dn bk pl nw cs xv.wlA xv.vl.length xv.wlc)]) A10 c11)), B219, c220, P⟩, (by (try dsimp only); exact ⟨by omega, by omega, hI3, hS3.wk (Int.le_refl _) oO, hE3, hB3, fun j j0 j1 => absurd j1 oO⟩), hs_.mono (Sub.get (.c4 G G G G (.c4 G G G G .n))), hw_.keep (.d (.d (.d (.c .h .n))))⟩) (fun ⟨i, M1, B1, c1, P1⟩ ⟨q_0, q_1, q_2, q_3, q_4, q_5, q_6⟩ => ?_)
  try dsimp only
  have hdel := hdel0 i
  refine .seq (.region (.e G G G G G (.go idQ (.seq (.condI G bD (fun h62 => ?_) (fun h62 => ?_))))))
  ·
   refine .skipgo idQ (.seq (.block (.seq ?_)))
   have hdel1 := hdel oO oO
   have hgi : gt all i ∈ all := gt_in oO oO
   refine .region (.m G G G (.v (ev_ix G underlying52 ty92 G G oO oO (fun _ _ => Fr.adr (i := i) hA oO oO)) G (.v (ev_lda G G (At.w (Fr.el (i := i) hA oO oO)) ty92) G ?_)))
   refine .cons (st_alloc G G G G zf92 (fun b63 => ?_))
   refine .a G G G (.cons (st_storea (l' := [.int .i64 ((gt all i).kind), .int .i64 ((gt all i).item)]) G G G ty92 G G G .h G G (.go idQ (.seq (.region (.f fo132_0 0 G G G G ?_))))))
   refine .f fo130_0 0 G G G G (.l ty3 6 G G G G G (.m G G G (.v (ev_shr (r := (shrI dn i)) G G G oO G) G ?_)))
   refine .v (ev_band G G G) G (.e G G G G G (.m G G G (.w (fun _ => ev_fa G fo92_0 G (r := 0) G) G ?_)))
   refine .w (fun hb => ev_ld1 G ty90 (lkg G hb) (At.own1 0 G G)) G (.w (fun hb => ev_cmp G (lkg G hb) G G) G (.w (fun hb => ev_mv G (lkg G hb)) G (.cons (Ev.ggstep (b1 := ((bnd .i64 (shrI dn i) 1) == 0)) (b := (((gt all i).kind) != 3)) cb_tf (fun hb1 _ => ev_fa G fo132_0 G (r := 0) G) G G G G G ?_))))
   refine .cons (Ev.ggstep (b1 := ((bnd .i64 (shrI dn i) 1) == 0)) (b := (((gt all i).kind) != 3)) cb_tf (fun hb1 hb => ev_fa G fo130_0 (lkg G hb) (r := 0) G) G G G G G ?_)
   refine .cons (Ev.ggstep (b1 := ((bnd .i64 (shrI dn i) 1) == 0)) (b := (((gt all i).kind) != 3)) cb_tf (fun hb1 hb => ev_ld1 G ty3 (lkg G hb) (At.own1 6 G G)) G G G G G ?_)
   refine .cons (Ev.ggstep (b1 := ((bnd .i64 (shrI dn i) 1) == 0)) (b := (((gt all i).kind) != 3)) cb_tf (fun hb1 _ => ev_mv G G) G G G G G ?_)
   refine .cons (Ev.ggstep (b1 := ((bnd .i64 (shrI dn i) 1) == 0)) (b := (((gt all i).kind) != 3)) cb_tf (fun hb1 hb => have hp := bT (bA bE (bN bNE)) hb; ev_sub G (lkg G hb) G (r := (i - 1)) G (by have _h := hp; omega) (by have _h := hp; omega)) G G G G G ?_)
   refine .cons (Ev.ggstep (b1 := ((bnd .i64 (shrI dn i) 1) == 0)) (b := (((gt all i).kind) != 3)) cb_tf (fun hb1 hb => have hp := bT (bA bE (bN bNE)) hb; ev_shr (r := (shrI dn (i - 1))) G (lkg G hb) (lkg G hb) (by have _h := hp; omega) G) G G G G G ?_)
   refine .cons (Ev.ggstep (b1 := ((bnd .i64 (shrI dn i) 1) == 0)) (b := (((gt all i).kind) != 3)) cb_tf (fun hb1 hb => ev_band G (lkg G hb) G) G G G G G ?_)
   refine .cons (Ev.ggstep (b1 := ((bnd .i64 (shrI dn i) 1) == 0)) (b := (((gt all i).kind) != 3)) cb_tf (fun hb1 hb => ev_cmp G (lkg G hb) G G) G G G G G ?_)
   refine .w (fun hb => ev_or G (lkg G hb) G (lkgn G cb_tf hb)) G (.v (ev_and G G G G) G (.go idQ (.condI G (bA bE (bO bNE bNE)) (fun h64 => ?_) (fun h64 => ?_))))
   ·
    have hb1 : bt dn i = false := (bit_0 hdn.1 oO oO oO).1 h64.1
    have hb2 : (gt all i).kind = 3 → bt dn (i - 1) = true := fun h3_ => bit_1 hdn.1 oO (by have := hdel1 h3_; omega) oO (h64.2.resolve_left (fun h4_ => h4_ h3_))
    have hng := nun_get (d := dn) (i := i) oO hb1 (n := all.length) oO
    have hrem : nun dn all.length + ((v.brs.length : Int) - bk) = F := hx.rem
    have htr := t_room ht (tp_step (f := F) (n := 8) hF0 (by decide) (by decide)) (tp_0 (f := F - 1)) (i := i) oO
    refine .region (.m G G G (.d 6 ty132 G G G G (.m G G G ?_)))
    refine .d 0 ty92 G G G G (.cons (st_call0 G G G G hbd86 G (.c (.t .h) (.c (.t2 (.t .h)) (.c (.t2 .h) (.c (.t4 .h) .n)))) (step_ f p v b aA ac all fA fc fst mb_ B1 c1 dn bk pl nw cs xv P1 M1 F (t + 1 + (tp (F - 1) + i * tp (F - 1))) i _ _ hA hF hPB hVH hO oO q_2 hx hund (q_3.sub _ hm) (cnt_all (y := (XS.mk dn bk pl nw cs xv.wlA xv.vl.length xv.wlc)) (A := A10) (cc := c11) hx q_3 hbd) htr hn0 hfo oO hb1 hb2 ih) (fun v_q69 C_q69 q69 => ?_)))
    obtain ⟨M265, B266, c267, P268, p70, p71, p72, rfl, rfl⟩ := q69
    show SP _ _ _ _ _ _ ⟨_, _ :: _ :: _ :: _ :: _, _, _⟩
    refine .go idQ (.region (.p ((i + 1)) oO oO G G G G G (.m G G G ?_)))
    exact SP.nil (SQ.roundb (X := Int × (List (KY × LB)) × VL × Int × (List VL)) (x := (i, M1, B1, c1, P1)) ⟨(i + 1), M265, B266, c267, P268⟩ (by (try dsimp only); exact ⟨by omega, by omega, p70, (q_3.trans p71).wk (Int.le_refl _) t_next, fun e => p71.le _ (q_4 e), fun o k hk => p71.le k (q_5 o k hk), (upto_nx (Φ := fun j : Int => (CX.mk p v all fst).visOk (RS.mk dn bk pl nw cs) j → ∀ k, CX.Fin (CX.mk p v all fst) ((CX.mk p v all fst).vis (RS.mk dn bk pl nw cs) j) k → BLe B266 c267 k) (fun j j0 j1 o k hk => p71.le k (q_6 j j0 j1 o k hk)) p72)⟩) dO (Sub.get (.c4 G G G G (.c4 G G G G .n))) (kp (.c .h (.c (.t4 .h) (.c (.t .h) (.c .h (.c (.t2 .h) (.c (.t2 .h) (.c .h .n)))))))))
   refine .skipgo idQ (.region (.p ((i + 1)) oO oO G G G G G (.m G G G ?_)))
   exact SP.nil (SQ.roundb (X := Int × (List (KY × LB)) × VL × Int × (List VL)) (x := (i, M1, B1, c1, P1)) ⟨(i + 1), M1, B1, c1, P1⟩ (by (try dsimp only); exact ⟨by omega, by omega, q_2, q_3.wk (Int.le_refl _) (by have := tp_0 (f := F - 1); have := t_next (T := tp (F - 1)) (i := i); omega), q_4, q_5, (upto_nx (Φ := fun j : Int => (CX.mk p v all fst).visOk (RS.mk dn bk pl nw cs) j → ∀ k, CX.Fin (CX.mk p v all fst) ((CX.mk p v all fst).vis (RS.mk dn bk pl nw cs) j) k → BLe B1 c1 k) q_6 (fun o => absurd o (visO_not (s := (RS.mk dn bk pl nw cs)) hdn.1 (by show dn < _; omega) oO oO (hdel0 i oO oO) h64)))⟩) dO (Sub.get (.c4 G G G G (.c4 G G G G .n))) (kp (.c (.t .h) (.c (.t .h) (.c (.t .h) (.c (.t .h) (.c (.t .h) (.c (.t .h) (.c (.t .h) .n)))))))))
  exact .exitq idQ (end0 results54 (.c .h (.c (.t2 .h) (.c (.t .h) (.c (.t2 (.t .h)) .n)))) ⟨M1, B1, c1, P1, (sri_done (y := (XS.mk dn bk pl nw cs xv.wlA xv.vl.length xv.wlc)) (A := A10) (cc := c11) hI hx G q_2 q_3 (fin_all hund q_4 q_5 (fun j j0 j1 => q_6 j j0 (by have j1 : j < (all.length : Int) := j1; omega)))), (srs_done (y := (XS.mk dn bk pl nw cs xv.wlA xv.vl.length xv.wlc)) (A := A10) (cc := c11) hx q_3 (tp_step hF0 oO oO)), (fin_all hund q_4 q_5 (fun j j0 j1 => q_6 j j0 (by have j1 : j < (all.length : Int) := j1; omega))), G, G⟩)
 refine SR.m 0 G G G G ?_
 refine SR.z 1 G G (ev_fa G fo132_0 G (r := 0) G) ?_
 refine SR.z 2 G G (ev_fa G fo130_0 G (r := 0) G) ?_
 refine SR.z 3 G G (ev_ld1 G ty3 G (At.d (At.lent hR_13 3 G G))) ?_
 refine SR.m 5 G G G G ?_
 refine SR.z 6 G G (ev_nil G G) ?_
 refine SR.z 7 G G (ev_fa G fo123_1 G (r := 8) G) ?_
 refine SR.z 8 G G (ev_fa G fo72_2 G (r := 10) G) ?_
 refine SR.two (i := 4) (j := 9) kR ⟨_, G, ?_⟩ ⟨_, G, ?_⟩
 ·
  refine st_call0 G G G G hbd83 G (.c .h .n) (aboard_ p v b aA ac all fA fc fst mb_ B c dn _ _ (Fr.ext hA hx_13) (Fr.ext hF hx_13) ((hPB).ext hx_13) ((hVH).ext hx_13) hO oO hfo) (fun v_q76 C_q76 q76 => ⟨tt0, ?_⟩)
  obtain ⟨ow73, A274, c275, p77, p78, rfl, rfl⟩ := q76
  show SR _ _ _ _ _ _ _ _ _ ⟨_, _ :: _ :: _, _, _⟩
  refine SR.o 9 G (Ev.step (ev_ld1 G ty22 G (At.own1 0 G G)) G G G ⟨tt0, ?_⟩)
  refine SR.o 10 G (st_lendk G G G G hbd82 G .n (.c (.t .h) .n) (fun w_ hw => lunder A274 c275 (abF p dn all 0 fst) v.vcA v.vcc v.vcap _ _ (Fr.lendm hw 0 G (by have h_ := p78; have hd_ := hL.dims; omega) p77) (Fr.ext ((hVH).ext hx_13).1 hw.lendx)) ⟨tt0, ?_⟩)
  refine SR.z 11 G G (ev_not G G) ?_
  refine SR.fin kR hl_13 hx_13 hR_13 (.c (.c .n)) ?_
  exact SQ.weak (key17 (ow73, A274, c275)) (Sub.get (.c4 G G G G (.c G (.c G (.c G .n))))) (kp (.d (.d (.d (.c .h .n)))))
 refine Ev.step (ev_ld1 G ty22 G (At.own1 0 G G)) G G G ⟨tt0, ?_⟩
 refine SR.o 4 G (st_call0 G G G G hbd83 G (.c .h .n) (aboard_ p v b aA ac all fA fc fst mb_ B c dn _ _ (Fr.ext hA hx_13) (Fr.ext hF hx_13) ((hPB).ext hx_13) ((hVH).ext hx_13) hO oO hfo) (fun v_q82 C_q82 q82 => ⟨tt0, ?_⟩))
 obtain ⟨ow79, A280, c281, p83, p84, rfl, rfl⟩ := q82
 show SR _ _ _ _ _ _ _ _ _ ⟨_, _ :: _ :: _, _, _⟩
 refine SR.o 10 G (st_lendk G G G G hbd82 G .n (.c (.t .h) .n) (fun w_ hw => lunder A280 c281 (abF p dn all 0 fst) v.vcA v.vcc v.vcap _ _ (Fr.lendm hw 0 G (by have h_ := p84; have hd_ := hL.dims; omega) p83) (Fr.ext ((hVH).ext hx_13).1 hw.lendx)) ⟨tt0, ?_⟩)
 refine SR.z 11 G G (ev_not G G) ?_
 refine SR.fin kR hl_13 hx_13 hR_13 (.c (.c .n)) ?_
 exact SQ.weak (key17 (ow79, A280, c281)) (Sub.get (.c4 G G G G (.c G (.c G (.c G .n))))) (kp (.d (.d (.d (.c .h .n)))))
end Go.Proofs.YtimhdimhdimbjaaGreat.Sx
