import Derived.Test.YtimhdimhdimbjaaGreatProg
import Derived.Test.YtimhdimhdimbjaaGreatS5
set_option linter.unusedVariables false
set_option linter.unusedSimpArgs false
set_option linter.unusedSectionVars false
set_option maxRecDepth 20000
set_option maxHeartbeats 1000000
namespace Go.Proofs.YtimhdimhdimbjaaGreat.Sx.FL
open Go Go.SX Go.Proofs Go.Proofs.Tryz FA FB FC FD FE FF FG FH FJ FK
theorem hbd92 : hasBody prog 92 = true := by kernel_rfl
theorem hbd96 : hasBody prog 96 = true := by kernel_rfl
theorem hbd61 : hasBody prog 61 = true := by kernel_rfl
theorem hbd62 : hasBody prog 62 = true := by kernel_rfl
end Go.Proofs.YtimhdimhdimbjaaGreat.Sx.FL
namespace Go.Proofs.YtimhdimhdimbjaaGreat.Sx
open Go Go.SX Go.Proofs Go.Proofs.Tryz FA FB FC FD FE FF FG FH FJ FK FL
theorem rof13_ (p : PB) (k : Int) (A : Option Addr) (c : Nat) (l : List Vis) (S : Nat → Prop) (wf : World) (hA : Fr eVis S wf A l) (hPB : PBF S wf p) (hL : LawP p) (hll : l.length ≤ 60) :
  TR0 prog 61 [.agg (cPB p).toArray, .int .i64 k, .slice A l.length c] [] S wf (fun v_ C_ => ∃ (vh : Int) (sA : Option Addr) (sn : Nat) (sc : Nat), v_ = .tuple #[.agg #[.int .i64 vh, .slice sA sn sc, .int .i64 ((planP p k l).time), .int .i64 ((planP p k l).dist), .int .i64 ((planP p k l).wait), .int .i64 ((planP p k l).serv), .int .i64 ((planP p k l).cost)], .int .i64 ((planP p k l).e)] ∧ C_ = []) := by
 have hla := hA.len
 have hlv := hPB.2.2.1.1.len
 refine TR.mk func61 G ntmps61 G G (fun w_ => ?_)
 refine .seq (.region (.cons (st_boxa G G G G G (fun b1 => (.cons (st_alloc G G G G zf86 (fun b2 => (.a G G G ?_))))))))
 refine .go idQ (.seq (.seq (.region (.m G G G (.e G G G G G (.m G G G ?_))))))
 refine .w (fun _ => ev_mv G G) G (.w (fun _ => ev_fa G fo29_3 G (r := 5) G) G (.w (fun hb => ev_ld1 G ty25 (lkg G hb) (At.own1 1 G G)) G (.w (fun hb => ev_len G underlying25 (lkg G hb)) G ?_)))
 refine .w (fun hb => ev_cmp G (lkg G hb) (lkg G hb) G) G (.r G G G G G (.go idQ (.condI G (bO bD bD) (fun h3 => ?_) (fun h3 => ?_))))
 ·
  refine .seq (.region (.v (ev_any (v := .agg #[.int .i64 0, .slice none 0 0, .int .i64 0, .int .i64 0, .int .i64 0, .int .i64 0, .int .i64 0]) G kR (fun _ => by kernel_rfl)) G (.cons (st_storea (l' := [.int .i64 0, .slice none 0 0, .int .i64 0, .int .i64 0, .int .i64 0, .int .i64 0, .int .i64 0]) G G G ty86 G G G .h G G (.a G G G ?_)))))
  refine .go idQ (.ret idQ (retv2 results61 (.c 0 G G ty86) (.t G) .n ⟨0, none, 0, 0, (by rw [plan_out (by assumption)]; rfl), G⟩))
 refine .skipgo idQ (.seq (.region (.f fo29_3 5 G G G G (.l ty25 1 G G G G G (.m G G G ?_)))))
 refine .v (ev_ix G underlying25 ty72 G G oO oO (fun _ _ => Fr.adr (i := k) hPB.2.2.1.1 oO oO)) G (.v (ev_lda G G (At.w (Fr.el (i := k) hPB.2.2.1.1 oO oO)) ty72) G (.cons (st_alloc G G G G zf72 (fun b4 => (.cons (st_storea (l' := [.int .i64 ((gt p.vehs k).st), .int .i64 ((gt p.vehs k).en), .slice ((gt p.vehs k).vcA) ((gt p.vehs k).vcap.length) ((gt p.vehs k).vcc), .int .u64 ((gt p.vehs k).vsk), .int .i64 ((gt p.vehs k).lo), .int .i64 ((gt p.vehs k).hi), .int .i64 ((gt p.vehs k).fix), .int .i64 ((gt p.vehs k).pt), .int .i64 ((gt p.vehs k).pd), .int .i64 ((gt p.vehs k).mt), .slice ((gt p.vehs k).vbA) ((gt p.vehs k).brs.length) ((gt p.vehs k).vbc)]) G G G ty72 G G G .h G G ?_))))))
 refine .go idQ (.seq (.region (.d 2 ty29 G G G G (.d 0 ty72 G G G G (.m G G G ?_)))))
 refine .cons (st_callk G G G G hbd92 G .n (first_ p (gt p.vehs k) A c l _ _ hA hPB (hPB.2.2.1.2 k) oO lO) ?_)
 refine .a G G G (.go idQ (.seq (.seq (.region (.m G G G (.e G G G G G ?_))))))
 refine .go idQ (.condI G bNE (fun h5 => ?_) (fun h5 => ?_))
 ·
  refine .seq (.region (.v (ev_any (v := .agg #[.int .i64 0, .slice none 0 0, .int .i64 0, .int .i64 0, .int .i64 0, .int .i64 0, .int .i64 0]) G kR (fun _ => by kernel_rfl)) G (.m G G G (.cons (st_storea (l' := [.int .i64 0, .slice none 0 0, .int .i64 0, .int .i64 0, .int .i64 0, .int .i64 0, .int .i64 0]) G G G ty86 G G G (.t .h) G G ?_)))))
  refine .a G G G (.go idQ (.ret idQ (retv2 results61 (.c 0 G G ty86) (.t G) .n ⟨0, none, 0, 0, (by rw [plan_err (by assumption) G (by assumption)]; rfl), G⟩)))
 refine .skipgo idQ (.seq ?_)
 have hck : checksF p (gt p.vehs k) l = 0 := Classical.not_not.1 (by assumption)
 have hc0 := checks_0 hck
 have hV := hL.veh k oO oO
 have hsh := hV.sh
 have hfx := hV.fix
 have hpt := hV.pt
 have hpd := hV.pd
 refine .region (.d 2 ty29 G G G G (.m G G G (.cons (st_call0 G G G G hbd93 G .n (rloads_ p A c l _ _ hA hPB oO lO) (fun v_q8 C_q8 q8 => ?_)))))
 obtain ⟨u6, Y7, p9, rfl, rfl⟩ := q8
 show SP _ _ _ _ _ _ ⟨_, _ :: _ :: _, _, _⟩
 have hY := p9
 have hYl := loads_len hY
 refine .a G G G (.go idQ (.seq (.know (row_len 0 G) (fun hv12 => ?_))))
 obtain ⟨A10, c11, rfl, hv12_1, hv12_2⟩ := hv12
 unfold maxLen at hv12_2
 refine .region (.m G G G (.v (ev_any (v := .agg #[.int .i64 k, .slice none 0 0, .int .i64 0, .int .i64 0, .int .i64 0, .int .i64 0, .int .i64 0]) G kR (fun _ => by kernel_rfl)) G (.cons (st_alloc G G G G zf86 (fun b13 => ?_)))))
 refine .cons (st_storea (l' := [.int .i64 k, .slice none 0 0, .int .i64 0, .int .i64 0, .int .i64 0, .int .i64 0, .int .i64 0]) G G G ty86 G G G .h G G ?_)
 refine .go idQ (.seq ?_)
 refine SC.draw mo [] [] .n (fun _ _ _ => sc0) (fun wf_14 hl_14 hx_14 hR_14 => ?_)
 refine SR.z 0 G G (ev_fa G fo72_4 G (r := 4) G) ?_
 refine SR.z 1 G G (ev_fa G fo69_0 G (r := 4) G) ?_
 refine SR.z 2 G G (ev_ld1 G ty3 G (At.d (At.lent hR_14 3 G G))) ?_
 refine SR.z 3 G G (ev_fa G fo72_0 G (r := 0) G) ?_
 refine SR.z 4 G G (ev_ld1 G ty3 G (At.d (At.lent hR_14 3 G G))) ?_
 refine SR.z 5 G G (ev_as G G) ?_
 refine SR.z 6 G G (ev_as G G) ?_
 refine SR.fin kR hl_14 hx_14 hR_14 .n ?_
 refine SQ.go idQ ?_
 refine .seq ?_
 refine SC.nilrow eST 176 ?_
 refine SC.draw mo [rw_ eST 176 (.slice none 0 0) ([] : List ST), cel b13 [.int .i64 k, .slice none 0 0, .int .i64 0, .int .i64 0, .int .i64 0, .int .i64 0, .int .i64 0] 86] [(12, fun w => At w b13 0 [.int .i64 k, .slice none 0 0, .int .i64 0, .int .i64 0, .int .i64 0, .int .i64 0, .int .i64 0])] (.d .n) (fun w_ _ hw_ => (sc1 (At.whole 1 G w_ hw_) sc0)) (fun wf_15 hl_15 hx_15 hR_15 => ?_)
 refine SR.z 0 G G (ev_fa G fo86_1 G (r := 1) G) ?_
 refine SR.z 1 G G (ev_ld1 G ty84 G (At.elem1 (v := .slice none 0 0) (At.ofcs 0 G kR) 1 G)) ?_
 refine SR.z 2 G G (ev_any (v := .agg #[.int .i64 5, .int .i64 0]) G kR (fun _ => by kernel_rfl)) ?_
 refine SR.m 3 G G G G ?_
 refine SR.m 4 G G G G ?_
 refine SR.m 5 G G G G ?_
 refine SR.z 6 G G (ev_ix G underlying173 ty22 G G oO oO (fun _ _ => Fr.adr (i := 0) (Fr.lent (S := S) hR_15 0 G lO) oO oO)) ?_
 refine SR.z 7 G G (ev_ld1 G ty22 G (At.elem1 (At.d (Fr.el (i := 0) (Fr.lent (S := S) hR_15 0 G lO) oO oO)) 0 G)) ?_
 refine SR.z 8 G G (ev_any (v := .agg #[.int .i64 5, .int .i64 0, .int .i64 ((gt p.vehs k).st), .int .i64 ((gt p.vehs k).lo), .int .i64 0, .int .i64 0, .slice ((gt Y7 0).ilA) ((gt Y7 0).il.length) ((gt Y7 0).ilc), .int .i64 0, .int .i64 0]) G kR (fun _ => by kernel_rfl)) ?_
 refine SR.o 9 G (st_lit eST (e := 176) (l := [(ST.mk 5 0 ((gt p.vehs k).st) ((gt p.vehs k).lo) 0 0 ((gt Y7 0).il) 0 0 ((gt Y7 0).ilA) ((gt Y7 0).ilc))]) G G G G kR G G kW (fun b16 => ⟨ttw 2 G, ?_⟩))
 refine SR.o 10 G (st_app0 (E := eST) (m := [(ST.mk 5 0 ((gt p.vehs k).st) ((gt p.vehs k).lo) 0 0 ((gt Y7 0).il) 0 0 ((gt Y7 0).ilA) ((gt Y7 0).ilc))]) G G G G underlying84 ai176 G G G (.t .h) rO (row_src 0 G) lO G (fun v17 => ⟨ttw 2 G, ?_⟩))
 refine SR.z 11 G G (ev_fa G fo86_1 G (r := 1) G) ?_
 refine .know (row_len 0 G) (fun hv20 => ?_)
 obtain ⟨A18, c19, rfl, hv20_1, hv20_2⟩ := hv20
 unfold maxLen at hv20_2
 refine SR.o 12 G (st_store1 G G G ty84 G G G (.t2 .h) (.t .h) ⟨ttc (fun w_ hw_ => (tc2 kR tc0)), ?_⟩)
 refine SR.fin kR hl_15 hx_15 hR_15 (.c (.c (.c .n))) ?_
 refine SQ.go idQ ?_
 refine .seq (.seq (.region (.a G G G (.go idQ (.block (.loop (X := Int × Int × Int × Int × Int × Int × Int × (List ST) × Value) (fun ⟨i, now, pa, tm, ds, wt, sr, W, u_W⟩ => 0 ≤ i ∧ i ≤ (l.length : Int) ∧ timesR p (gt p.vehs k) (l.drop i.toNat) ⟨now, tm, ds, wt, sr, pa⟩ = timesR p (gt p.vehs k) l ⟨(gt p.vehs k).lo, 0, 0, 0, 0, (gt p.vehs k).st⟩ ∧ (0 ≤ now ∧ now ≤ 2000000) ∧ (-i ≤ tm ∧ tm ≤ 32000000 * i) ∧ (-i ≤ ds ∧ ds ≤ 32000000 * i) ∧ (0 ≤ wt ∧ wt ≤ 2000001 * i) ∧ (0 ≤ sr ∧ sr ≤ 1000000 * i) ∧ (W.length : Int) = i + 1) (fun ⟨i, now, pa, tm, ds, wt, sr, W, u_W⟩ => [(2, .slice A l.length c), (3, .pointer (some ⟨b1, 0, none⟩)), (6, .pointer (some ⟨b2, 0, none⟩)), (8, .pointer (some ⟨b4, 0, none⟩)), (10, .slice A10 Y7.length c11), (11, .pointer (some ⟨b13, 0, none⟩)), (14, .int .i64 i), (12, .int .i64 now), (13, .int .i64 pa)]) (fun ⟨i, now, pa, tm, ds, wt, sr, W, u_W⟩ => [cel b13 [.int .i64 k, u_W, .int .i64 tm, .int .i64 ds, .int .i64 wt, .int .i64 sr, .int .i64 0] 86, rw_ eST 176 (u_W) W, rw_ eST 176 (.slice (some ⟨b16, 0, none⟩) 1 1) [(ST.mk 5 0 ((gt p.vehs k).st) ((gt p.vehs k).lo) 0 0 ((gt Y7 0).il) 0 0 ((gt Y7 0).ilA) ((gt Y7 0).ilc))], rw_ eIL 22 (.slice A10 Y7.length c11) Y7, nestIL 3 Y7, cel b4 [.int .i64 ((gt p.vehs k).st), .int .i64 ((gt p.vehs k).en), .slice ((gt p.vehs k).vcA) ((gt p.vehs k).vcap.length) ((gt p.vehs k).vcc), .int .u64 ((gt p.vehs k).vsk), .int .i64 ((gt p.vehs k).lo), .int .i64 ((gt p.vehs k).hi), .int .i64 ((gt p.vehs k).fix), .int .i64 ((gt p.vehs k).pt), .int .i64 ((gt p.vehs k).pd), .int .i64 ((gt p.vehs k).mt), .slice ((gt p.vehs k).vbA) ((gt p.vehs k).brs.length) ((gt p.vehs k).vbc)] 72, cel b2 [.int .i64 0, .slice none 0 0, .int .i64 0, .int .i64 0, .int .i64 0, .int .i64 0, .int .i64 0] 86, cel b1 (cPB p) 29]) (fun _ => S) (fun _ => wf) (fun ⟨i, now, pa, tm, ds, wt, sr, W, u_W⟩ => ((l.length : Int) - i).toNat) (fun a_ w_ hs_ hw_ => ⟨⟨0, (gt p.vehs k).lo, (gt p.vehs k).st, 0, 0, 0, 0, [(ST.mk 5 0 ((gt p.vehs k).st) ((gt p.vehs k).lo) 0 0 ((gt Y7 0).il) 0 0 ((gt Y7 0).ilA) ((gt Y7 0).ilc))], .slice A18 ([(ST.mk 5 0 ((gt p.vehs k).st) ((gt p.vehs k).lo) 0 0 ((gt Y7 0).il) 0 0 ((gt Y7 0).ilA) ((gt Y7 0).ilc))].length) c19⟩, (by (try dsimp only); exact ⟨oO, oO, G, oO, oO, oO, oO, oO, G⟩), hs_.mono (Sub.get (.c4 G G G G (.c4 G G G G (.c G .n)))), hw_.keep (.d (.d (.d (.d .n))))⟩) (fun ⟨i, now, pa, tm, ds, wt, sr, W, u_W⟩ ⟨q_0, q_1, q_2, q_3, q_4, q_5, q_6, q_7, q_8⟩ => ?_)))))))
 try dsimp only
 refine .seq (.seq (.region (.m G G G (.m G G G (.g underlying52 G G G ?_)))))
 refine .e G G G G G (.go idQ (.condI G bD (fun h21 => ?_) (fun h21 => ?_)))
 ·
  refine .skipgo idQ (.seq (.block (.seq ?_)))
  refine SC.draw mo [] [] .n (fun _ _ _ => sc0) (fun wf_22 hl_22 hx_22 hR_22 => ?_)
  refine SR.cut (fun bb23 => ([(2, .slice A l.length c), (3, .pointer (some ⟨b1, 0, none⟩)), (6, .pointer (some ⟨b2, 0, none⟩)), (8, .pointer (some ⟨b4, 0, none⟩)), (10, .slice A10 Y7.length c11), (11, .pointer (some ⟨b13, 0, none⟩)), (14, .int .i64 i), (12, .int .i64 now), (13, .int .i64 pa), (66, .int .i64 i), (67, .slice A l.length c), (68, .int .i64 (l.length : Int)), (69, .bool (decide (i < (l.length : Int)))), (73, .agg (cPB p).toArray), (74, .slice A l.length c), (75, .int .i64 i), (76, .pointer (some ⟨(ab A), ao A + (i).toNat * 2, none⟩)), (77, .agg #[.int .i64 ((gt l i).kind), .int .i64 ((gt l i).item)]), (78, .tuple #[.agg #[.int .i64 ((stopD p (gt l i)).pl), .int .i64 ((stopD p (gt l i)).srv), .slice ((stopD p (gt l i)).soA) ((stopD p (gt l i)).sws.length) ((stopD p (gt l i)).soc)], .bool (isStop p (gt l i))]), (72, .tuple #[.agg #[.int .i64 ((stopD p (gt l i)).pl), .int .i64 ((stopD p (gt l i)).srv), .slice ((stopD p (gt l i)).soA) ((stopD p (gt l i)).sws.length) ((stopD p (gt l i)).soc)], .bool (isStop p (gt l i))]), (79, .agg #[.int .i64 ((stopD p (gt l i)).pl), .int .i64 ((stopD p (gt l i)).srv), .slice ((stopD p (gt l i)).soA) ((stopD p (gt l i)).sws.length) ((stopD p (gt l i)).soc)]), (80, .bool (isStop p (gt l i))), (15, .pointer (some ⟨bb23, 0, none⟩)), (16, .bool (isStop p (gt l i)))], [cel bb23 [.int .i64 ((stopD p (gt l i)).pl), .int .i64 ((stopD p (gt l i)).srv), .slice ((stopD p (gt l i)).soA) ((stopD p (gt l i)).sws.length) ((stopD p (gt l i)).soc)] 78, cel b13 [.int .i64 k, u_W, .int .i64 tm, .int .i64 ds, .int .i64 wt, .int .i64 sr, .int .i64 0] 86, rw_ eST 176 (u_W) W, rw_ eST 176 (.slice (some ⟨b16, 0, none⟩) 1 1) [(ST.mk 5 0 ((gt p.vehs k).st) ((gt p.vehs k).lo) 0 0 ((gt Y7 0).il) 0 0 ((gt Y7 0).ilA) ((gt Y7 0).ilc))], rw_ eIL 22 (.slice A10 Y7.length c11) Y7, nestIL 3 Y7, cel b4 [.int .i64 ((gt p.vehs k).st), .int .i64 ((gt p.vehs k).en), .slice ((gt p.vehs k).vcA) ((gt p.vehs k).vcap.length) ((gt p.vehs k).vcc), .int .u64 ((gt p.vehs k).vsk), .int .i64 ((gt p.vehs k).lo), .int .i64 ((gt p.vehs k).hi), .int .i64 ((gt p.vehs k).fix), .int .i64 ((gt p.vehs k).pt), .int .i64 ((gt p.vehs k).pd), .int .i64 ((gt p.vehs k).mt), .slice ((gt p.vehs k).vbA) ((gt p.vehs k).brs.length) ((gt p.vehs k).vbc)] 72, cel b2 [.int .i64 0, .slice none 0 0, .int .i64 0, .int .i64 0, .int .i64 0, .int .i64 0, .int .i64 0] 86, cel b1 (cPB p) 29])) S wf (fun bb23 => ?_) (fun key24 => ?_)
  ·
   try dsimp only
   refine SQ.go idQ ?_
   refine .seq (.seq (.region (.m G G G (.v (ev_not G G) G (.go idQ ?_)))))
   refine .condI G (bN bV) (fun h25 => ?_) (fun h25 => ?_)
   ·
    have hk4 := pairs_kind hc0.1 (i := i) oO oO (by assumption)
    have hbi := (breaks_item hc0.2 (Int.le_refl _)).2 _ (gt_mem (i := i) oO oO) hk4
    have hbr := hV.brk _ hbi.1 hbi.2
    refine SC.draw mo [cel bb23 [.int .i64 ((stopD p (gt l i)).pl), .int .i64 ((stopD p (gt l i)).srv), .slice ((stopD p (gt l i)).soA) ((stopD p (gt l i)).sws.length) ((stopD p (gt l i)).soc)] 78] [] (.c .h .n) (fun _ _ _ => sc0) (fun wf_26 hl_26 hx_26 hR_26 => ?_)
    refine SR.m 0 G G G G ?_
    refine SR.z 1 G G (ev_fa G fo72_9 G (r := 10) G) ?_
    refine SR.z 2 G G (ev_ld1 G ty70 G (At.d (At.lent hR_26 5 G G))) ?_
    refine SR.m 3 G G G G ?_
    refine SR.m 4 G G G G ?_
    refine SR.z 5 G G (ev_ix G underlying52 ty92 G G oO oO (fun _ _ => Fr.adr (i := i) (Fr.ext hA hx_26) oO oO)) ?_
    refine SR.z 6 G G (ev_fa G fo92_1 G (r := ao A + (i).toNat * 2 + 1) G) ?_
    refine SR.z 7 G G (ev_ld1 G ty3 G (At.elem1 (At.d (Fr.el (i := i) (Fr.ext hA hx_26) oO oO)) 1 G)) ?_
    refine SR.z 8 G G (ev_ix G underlying70 ty75 G G oO oO (fun _ _ => Fr.adr (i := (gt l i).item) (((hPB).ext hx_26).2.2.1.2 k).2.1 oO oO)) ?_
    refine SR.z 9 G G (ev_fa G fo75_1 G (r := ao ((gt p.vehs k).vbA) + ((gt l i).item).toNat * 2 + 1) G) ?_
    refine SR.z 10 G G (ev_ld1 G ty3 G (At.elem1 (At.d (Fr.el (i := (gt l i).item) (((hPB).ext hx_26).2.2.1.2 k).2.1 oO oO)) 1 G)) ?_
    refine SR.z 11 G G (ev_fa G fo72_9 G (r := 10) G) ?_
    refine SR.z 12 G G (ev_ld1 G ty70 G (At.d (At.lent hR_26 5 G G))) ?_
    refine SR.m 13 G G G G ?_
    refine SR.m 14 G G G G ?_
    refine SR.z 15 G G (ev_ix G underlying52 ty92 G G oO oO (fun _ _ => Fr.adr (i := i) (Fr.ext hA hx_26) oO oO)) ?_
    refine SR.z 16 G G (ev_fa G fo92_1 G (r := ao A + (i).toNat * 2 + 1) G) ?_
    refine SR.z 17 G G (ev_ld1 G ty3 G (At.elem1 (At.d (Fr.el (i := i) (Fr.ext hA hx_26) oO oO)) 1 G)) ?_
    refine SR.z 18 G G (ev_ix G underlying70 ty75 G G oO oO (fun _ _ => Fr.adr (i := (gt l i).item) (((hPB).ext hx_26).2.2.1.2 k).2.1 oO oO)) ?_
    refine SR.z 19 G G (ev_fa G fo75_0 G (r := ao ((gt p.vehs k).vbA) + ((gt l i).item).toNat * 2) G) ?_
    refine SR.z 20 G G (ev_ld1 G ty73 G (At.elem1 (At.d (Fr.el (i := (gt l i).item) (((hPB).ext hx_26).2.2.1.2 k).2.1 oO oO)) 0 G)) ?_
    refine SR.z 21 G G (ev_any (v := .agg #[.int .i64 pa, .int .i64 ((gt ((gt p.vehs k).brs) ((gt l i).item)).bsrv), .slice ((gt ((gt p.vehs k).brs) ((gt l i).item)).bwA) ((gt ((gt p.vehs k).brs) ((gt l i).item)).bws.length) ((gt ((gt p.vehs k).brs) ((gt l i).item)).bwc)]) G kR (fun _ => by kernel_rfl)) ?_
    refine SR.o 22 G (st_storea (l' := [.int .i64 pa, .int .i64 ((gt ((gt p.vehs k).brs) ((gt l i).item)).bsrv), .slice ((gt ((gt p.vehs k).brs) ((gt l i).item)).bwA) ((gt ((gt p.vehs k).brs) ((gt l i).item)).bws.length) ((gt ((gt p.vehs k).brs) ((gt l i).item)).bwc)]) G G G ty78 G G G .h G G ⟨tt0, ?_⟩)
    refine SR.fin kR hl_26 hx_26 hR_26 (.c .n) ?_
    refine SQ.go idQ ?_
    refine .seq ?_
    have hct : -1 ≤ cellF p.tn p.time pa pa ∧ cellF p.tn p.time pa pa ≤ 32000000 := cellF_rng hL.tc
    have hcd : -1 ≤ cellF p.dn p.dist pa pa ∧ cellF p.dn p.dist pa pa ≤ 32000000 := cellF_rng hL.dc
    refine .region (.m G G G (.f fo29_1 1 G G G G (.v (ev_lda (cs := [.int .i64 p.tn, .slice p.ptA p.time.length p.ptc]) G G (At.own 8 G G) ty24) G ?_)))
    refine .m G G G (.f fo78_0 0 G G G G (.l ty3 0 G G G G G (.cons (st_callk G G G G hbd95 G .n (rcell_ p.tn p.ptA p.ptc p.time pa pa _ _ hPB.1 (by have := hL.tn; have := hL.dn; omega) (by first | exact hL.tlen | (rw [hL.dn]; exact hL.dlen))) ?_))))
    refine .p ((now + (cellF p.tn p.time pa pa))) oO oO G G G G G (.a G G G (.go idQ (.seq ?_)))
    refine SC.draw mo [cel b13 [.int .i64 k, u_W, .int .i64 tm, .int .i64 ds, .int .i64 wt, .int .i64 sr, .int .i64 0] 86] [(10, fun w => At w b13 0 [.int .i64 k, u_W, .int .i64 tm, .int .i64 ds, .int .i64 wt, .int .i64 sr, .int .i64 0])] (.c (.t .h) .n) (fun w_ _ hw_ => (sc1 (At.whole 0 G w_ hw_) sc0)) (fun wf_27 hl_27 hx_27 hR_27 => ?_)
    refine SR.z 0 G G (ev_fa G fo86_2 G (r := 2) G) ?_
    refine SR.z 1 G G (ev_ld1 G ty3 G (At.elem1 (v := .int .i64 tm) (At.ofcs 0 G kR) 2 G)) ?_
    refine SR.z 2 G G (ev_fa G fo29_1 G (r := 1) G) ?_
    refine SR.z 3 G G (ev_lda (cs := [.int .i64 p.tn, .slice p.ptA p.time.length p.ptc]) G G (At.d (At.lent hR_27 7 G G)) ty24) ?_
    refine SR.m 4 G G G G ?_
    refine SR.z 5 G G (ev_fa G fo78_0 G (r := 0) G) ?_
    refine SR.z 6 G G (ev_ld1 G ty3 G (At.d (At.lent hR_27 0 G G))) ?_
    refine SR.o 7 G (st_callk G G G G hbd95 G .n (rcell_ p.tn p.ptA p.ptc p.time pa pa _ _ (((hPB).ext hx_27).1) (by have := hL.tn; have := hL.dn; omega) (by first | exact hL.tlen | (rw [hL.dn]; exact hL.dlen))) ⟨ttw 0 G, ?_⟩)
    refine SR.z 8 G G (ev_add G G G (r := (tm + (cellF p.tn p.time pa pa))) G oO oO) ?_
    refine SR.z 9 G G (ev_fa G fo86_2 G (r := 2) G) ?_
    refine SR.o 10 G (st_store1 G G G ty3 G G G .h (.t2 .h) ⟨ttc (fun w_ hw_ => (tc2 kR tc0)), ?_⟩)
    refine SR.fin kR hl_27 hx_27 hR_27 (.c .n) ?_
    refine SQ.go idQ ?_
    refine .seq ?_
    refine SC.draw mo [cel b13 [.int .i64 k, u_W, .int .i64 (tm + (cellF p.tn p.time pa pa)), .int .i64 ds, .int .i64 wt, .int .i64 sr, .int .i64 0] 86] [(10, fun w => At w b13 0 [.int .i64 k, u_W, .int .i64 (tm + (cellF p.tn p.time pa pa)), .int .i64 ds, .int .i64 wt, .int .i64 sr, .int .i64 0])] (.c .h .n) (fun w_ _ hw_ => (sc1 (At.whole 0 G w_ hw_) sc0)) (fun wf_28 hl_28 hx_28 hR_28 => ?_)
    refine SR.z 0 G G (ev_fa G fo86_3 G (r := 3) G) ?_
    refine SR.z 1 G G (ev_ld1 G ty3 G (At.elem1 (v := .int .i64 ds) (At.ofcs 0 G kR) 3 G)) ?_
    refine SR.z 2 G G (ev_fa G fo29_2 G (r := 3) G) ?_
    refine SR.z 3 G G (ev_lda (cs := [.int .i64 p.dn, .slice p.pdA p.dist.length p.pdc]) G G (At.d (At.lent hR_28 7 G G)) ty24) ?_
    refine SR.m 4 G G G G ?_
    refine SR.z 5 G G (ev_fa G fo78_0 G (r := 0) G) ?_
    refine SR.z 6 G G (ev_ld1 G ty3 G (At.d (At.lent hR_28 0 G G))) ?_
    refine SR.o 7 G (st_callk G G G G hbd95 G .n (rcell_ p.dn p.pdA p.pdc p.dist pa pa _ _ (((hPB).ext hx_28).2.1) (by have := hL.tn; have := hL.dn; omega) (by first | exact hL.tlen | (rw [hL.dn]; exact hL.dlen))) ⟨ttw 0 G, ?_⟩)
    refine SR.z 8 G G (ev_add G G G (r := (ds + (cellF p.dn p.dist pa pa))) G oO oO) ?_
    refine SR.z 9 G G (ev_fa G fo86_3 G (r := 3) G) ?_
    refine SR.o 10 G (st_store1 G G G ty3 G G G .h (.t2 (.t .h)) ⟨ttc (fun w_ hw_ => (tc2 kR tc0)), ?_⟩)
    refine SR.fin kR hl_28 hx_28 hR_28 (.c .n) ?_
    refine SQ.go idQ ?_
    refine .seq (.region (.f fo78_2 2 G G G G (.l ty73 1 G G G G G (.m G G G ?_))))
    refine .cons (st_callk G G G G hbd96 G .n (rstart_ ((gt ((gt p.vehs k).brs) ((gt l i).item)).bwA) ((gt ((gt p.vehs k).brs) ((gt l i).item)).bwc) ((gt ((gt p.vehs k).brs) ((gt l i).item)).bws) (now + (cellF p.tn p.time pa pa)) _ _ ((hPB.2.2.1.2 k).2.2 ((gt l i).item)) hbr.1) ?_)
    refine .m G G G (.x G G G G (.x G G G G (.a G G G ?_)))
    refine .a G G G (.go idQ (.seq (.seq (.region (.m G G G (.v (ev_not G G) G ?_))))))
    refine .go idQ (.condI G (bN bV) (fun h29 => ?_) (fun h29 => ?_))
    ·
     refine .seq (.region (.v (ev_any (v := .agg #[.int .i64 0, .slice none 0 0, .int .i64 0, .int .i64 0, .int .i64 0, .int .i64 0, .int .i64 0]) G kR (fun _ => by kernel_rfl)) G (.cons (st_storea (l' := [.int .i64 0, .slice none 0 0, .int .i64 0, .int .i64 0, .int .i64 0, .int .i64 0, .int .i64 0]) G G G ty86 G G G (.t4 (.t2 (.t .h))) G G (.a G G G ?_)))))
     refine .go idQ (.ret idQ (retv2 results61 (.c 0 G G ty86) (.t G) .n ⟨0, none, 0, 0, (by rw [plan_ok (by assumption) hck, timesF_none (times_no (by have hq := q_2; rw [drop_gt (x := i) oO oO] at hq; exact hq) (nextPl_n (by assumption)) (stopB_b hk4).1 (by assumption))]; rfl), G⟩))
    refine .skipgo idQ (.seq ?_)
    have hsb := stopB_bd (x := gt l i) (t := (now + (cellF p.tn p.time pa pa))) hL hV (fun h4_ => (breaks_item hc0.2 (Int.le_refl _)).2 _ (gt_mem (i := i) oO oO) h4_)
    rw [(stopB_b hk4).1, (stopB_b hk4).2] at hsb
    have hok : (startF ((gt ((gt p.vehs k).brs) ((gt l i).item)).bws) (now + (cellF p.tn p.time pa pa))).2 = true := Classical.not_not.1 (by assumption)
    have hsb2 := hsb.2.2 hok
    refine .region (.f fo86_4 4 G G G G (.l ty3 0 G G G G G (.m G G G ?_)))
    refine .v (ev_add G G G (r := (wt + ((startF ((gt ((gt p.vehs k).brs) ((gt l i).item)).bws) (now + (cellF p.tn p.time pa pa))).1))) G oO oO) G (.m G G G (.v (ev_sub G G G (r := ((wt + ((startF ((gt ((gt p.vehs k).brs) ((gt l i).item)).bws) (now + (cellF p.tn p.time pa pa))).1)) - (now + (cellF p.tn p.time pa pa)))) G oO oO) G (.f fo86_4 4 G G G G ?_)))
    refine .cons (st_store1 G G G ty3 G G G .h (.t4 .h) ?_)
    refine .go idQ (.seq (.region (.f fo86_5 5 G G G G (.l ty3 0 G G G G G (.f fo78_1 1 G G G G ?_)))))
    refine .l ty3 1 G G G G G (.v (ev_add G G G (r := (sr + ((gt ((gt p.vehs k).brs) ((gt l i).item)).bsrv))) G oO oO) G (.f fo86_5 5 G G G G (.cons (st_store1 G G G ty3 G G G .h (.t4 (.t .h)) ?_))))
    refine .go idQ (.seq ?_)
    refine SC.draw mo [cel b13 [.int .i64 k, u_W, .int .i64 (tm + (cellF p.tn p.time pa pa)), .int .i64 (ds + (cellF p.dn p.dist pa pa)), .int .i64 ((wt + ((startF ((gt ((gt p.vehs k).brs) ((gt l i).item)).bws) (now + (cellF p.tn p.time pa pa))).1)) - (now + (cellF p.tn p.time pa pa))), .int .i64 (sr + ((gt ((gt p.vehs k).brs) ((gt l i).item)).bsrv)), .int .i64 0] 86, rw_ eST 176 (u_W) W] [(27, fun w => At w b13 0 [.int .i64 k, u_W, .int .i64 (tm + (cellF p.tn p.time pa pa)), .int .i64 (ds + (cellF p.dn p.dist pa pa)), .int .i64 ((wt + ((startF ((gt ((gt p.vehs k).brs) ((gt l i).item)).bws) (now + (cellF p.tn p.time pa pa))).1)) - (now + (cellF p.tn p.time pa pa))), .int .i64 (sr + ((gt ((gt p.vehs k).brs) ((gt l i).item)).bsrv)), .int .i64 0])] (.c .h (.c (.t .h) .n)) (fun w_ _ hw_ => (sc1 (At.whole 0 G w_ hw_) sc0)) (fun wf_30 hl_30 hx_30 hR_30 => ?_)
    refine SR.z 0 G G (ev_fa G fo86_1 G (r := 1) G) ?_
    refine SR.z 1 G G (ev_ld1 G ty84 G (At.elem1 (v := u_W) (At.ofcs 0 G kR) 1 G)) ?_
    refine SR.m 2 G G G G ?_
    refine SR.m 3 G G G G ?_
    refine SR.z 4 G G (ev_ix G underlying52 ty92 G G oO oO (fun _ _ => Fr.adr (i := i) (Fr.ext hA hx_30) oO oO)) ?_
    refine SR.z 5 G G (ev_lda G G (At.d (Fr.el (i := i) (Fr.ext hA hx_30) oO oO)) ty92) ?_
    refine SR.z 6 G G (ev_fa G fo78_0 G (r := 0) G) ?_
    refine SR.z 7 G G (ev_ld1 G ty3 G (At.d (At.lent hR_30 0 G G))) ?_
    refine SR.m 8 G G G G ?_
    refine SR.m 9 G G G G ?_
    refine SR.m 10 G G G G ?_
    refine SR.z 11 G G (ev_sub G G G (r := (((startF ((gt ((gt p.vehs k).brs) ((gt l i).item)).bws) (now + (cellF p.tn p.time pa pa))).1) - (now + (cellF p.tn p.time pa pa)))) G oO oO) ?_
    refine SR.z 12 G G (ev_fa G fo78_1 G (r := 1) G) ?_
    refine SR.z 13 G G (ev_ld1 G ty3 G (At.d (At.lent hR_30 0 G G))) ?_
    refine SR.m 14 G G G G ?_
    refine SR.m 15 G G G G ?_
    refine SR.z 16 G G (ev_add G G G (r := (i + 1)) G oO oO) ?_
    refine SR.z 17 G G (ev_ix G underlying173 ty22 G G oO oO (fun _ _ => Fr.adr (i := (i + 1)) (Fr.lent (S := S) hR_30 2 G lO) oO oO)) ?_
    refine SR.z 18 G G (ev_ld1 G ty22 G (At.elem1 (At.d (Fr.el (i := (i + 1)) (Fr.lent (S := S) hR_30 2 G lO) oO oO)) 0 G)) ?_
    refine SR.z 19 G G (ev_fa G fo86_2 G (r := 2) G) ?_
    refine SR.z 20 G G (ev_ld1 G ty3 G (At.elem1 (v := .int .i64 (tm + (cellF p.tn p.time pa pa))) (At.ofcs 0 G kR) 2 G)) ?_
    refine SR.z 21 G G (ev_fa G fo86_3 G (r := 3) G) ?_
    refine SR.z 22 G G (ev_ld1 G ty3 G (At.elem1 (v := .int .i64 (ds + (cellF p.dn p.dist pa pa))) (At.ofcs 0 G kR) 3 G)) ?_
    refine SR.z 23 G G (ev_any (v := .agg #[.int .i64 ((gt l i).kind), .int .i64 ((gt l i).item), .int .i64 pa, .int .i64 (now + (cellF p.tn p.time pa pa)), .int .i64 (((startF ((gt ((gt p.vehs k).brs) ((gt l i).item)).bws) (now + (cellF p.tn p.time pa pa))).1) - (now + (cellF p.tn p.time pa pa))), .int .i64 ((gt ((gt p.vehs k).brs) ((gt l i).item)).bsrv), .slice ((gt Y7 (i + 1)).ilA) ((gt Y7 (i + 1)).il.length) ((gt Y7 (i + 1)).ilc), .int .i64 (tm + (cellF p.tn p.time pa pa)), .int .i64 (ds + (cellF p.dn p.dist pa pa))]) G kR (fun _ => by kernel_rfl)) ?_
    refine SR.o 24 G (st_lit eST (e := 176) (l := [(ST.mk ((gt l i).kind) ((gt l i).item) pa (now + (cellF p.tn p.time pa pa)) (((startF ((gt ((gt p.vehs k).brs) ((gt l i).item)).bws) (now + (cellF p.tn p.time pa pa))).1) - (now + (cellF p.tn p.time pa pa))) ((gt ((gt p.vehs k).brs) ((gt l i).item)).bsrv) ((gt Y7 (i + 1)).il) (tm + (cellF p.tn p.time pa pa)) (ds + (cellF p.dn p.dist pa pa)) ((gt Y7 (i + 1)).ilA) ((gt Y7 (i + 1)).ilc))]) G G G G kR G G kW (fun b31 => ⟨ttw 1 G, ?_⟩))
    refine SR.o 25 G (st_app (E := eST) (m := [(ST.mk ((gt l i).kind) ((gt l i).item) pa (now + (cellF p.tn p.time pa pa)) (((startF ((gt ((gt p.vehs k).brs) ((gt l i).item)).bws) (now + (cellF p.tn p.time pa pa))).1) - (now + (cellF p.tn p.time pa pa))) ((gt ((gt p.vehs k).brs) ((gt l i).item)).bsrv) ((gt Y7 (i + 1)).il) (tm + (cellF p.tn p.time pa pa)) (ds + (cellF p.dn p.dist pa pa)) ((gt Y7 (i + 1)).ilA) ((gt Y7 (i + 1)).ilc))]) G G G G underlying84 ai176 G G G (.t2 .h) rO (row_src 0 G) lO G (fun v32 => ⟨ttw 2 G, ?_⟩))
    refine SR.z 26 G G (ev_fa G fo86_1 G (r := 1) G) ?_
    refine .know (row_len 0 G) (fun hv35 => ?_)
    obtain ⟨A33, c34, rfl, hv35_1, hv35_2⟩ := hv35
    unfold maxLen at hv35_2
    refine SR.o 27 G (st_store1 G G G ty84 G G G (.t2 .h) (.t .h) ⟨ttc (fun w_ hw_ => (tc2 kR tc0)), ?_⟩)
    refine SR.fin kR hl_30 hx_30 hR_30 (.c (.c (.c .n))) ?_
    refine SQ.go idQ ?_
    refine SC.draw mo [] [] .n (fun _ _ _ => sc0) (fun wf_36 hl_36 hx_36 hR_36 => ?_)
    refine SR.m 0 G G G G ?_
    refine SR.z 1 G G (ev_fa G fo78_1 G (r := 1) G) ?_
    refine SR.z 2 G G (ev_ld1 G ty3 G (At.d (At.lent hR_36 3 G G))) ?_
    refine SR.z 3 G G (ev_add G G G (r := (((startF ((gt ((gt p.vehs k).brs) ((gt l i).item)).bws) (now + (cellF p.tn p.time pa pa))).1) + ((gt ((gt p.vehs k).brs) ((gt l i).item)).bsrv))) G oO oO) ?_
    refine SR.z 4 G G (ev_fa G fo78_0 G (r := 0) G) ?_
    refine SR.z 5 G G (ev_ld1 G ty3 G (At.d (At.lent hR_36 3 G G))) ?_
    refine SR.z 6 G G (ev_as G G) ?_
    refine SR.z 7 G G (ev_as G G) ?_
    refine SR.fin kR hl_36 hx_36 hR_36 .n ?_
    refine SQ.go idQ ?_
    refine .region (.m G G G (.p ((i + 1)) oO oO G G G G G (.a G G G ?_)))
    exact SP.nil (SQ.roundb (X := Int × Int × Int × Int × Int × Int × Int × (List ST) × Value) (x := (i, now, pa, tm, ds, wt, sr, W, u_W)) ⟨(i + 1), (((startF ((gt ((gt p.vehs k).brs) ((gt l i).item)).bws) (now + (cellF p.tn p.time pa pa))).1) + ((gt ((gt p.vehs k).brs) ((gt l i).item)).bsrv)), pa, (tm + (cellF p.tn p.time pa pa)), (ds + (cellF p.dn p.dist pa pa)), ((wt + ((startF ((gt ((gt p.vehs k).brs) ((gt l i).item)).bws) (now + (cellF p.tn p.time pa pa))).1)) - (now + (cellF p.tn p.time pa pa))), (sr + ((gt ((gt p.vehs k).brs) ((gt l i).item)).bsrv)), (W ++ [(ST.mk ((gt l i).kind) ((gt l i).item) pa (now + (cellF p.tn p.time pa pa)) (((startF ((gt ((gt p.vehs k).brs) ((gt l i).item)).bws) (now + (cellF p.tn p.time pa pa))).1) - (now + (cellF p.tn p.time pa pa))) ((gt ((gt p.vehs k).brs) ((gt l i).item)).bsrv) ((gt Y7 (i + 1)).il) (tm + (cellF p.tn p.time pa pa)) (ds + (cellF p.dn p.dist pa pa)) ((gt Y7 (i + 1)).ilA) ((gt Y7 (i + 1)).ilc))]), .slice A33 ((W ++ [(ST.mk ((gt l i).kind) ((gt l i).item) pa (now + (cellF p.tn p.time pa pa)) (((startF ((gt ((gt p.vehs k).brs) ((gt l i).item)).bws) (now + (cellF p.tn p.time pa pa))).1) - (now + (cellF p.tn p.time pa pa))) ((gt ((gt p.vehs k).brs) ((gt l i).item)).bsrv) ((gt Y7 (i + 1)).il) (tm + (cellF p.tn p.time pa pa)) (ds + (cellF p.dn p.dist pa pa)) ((gt Y7 (i + 1)).ilA) ((gt Y7 (i + 1)).ilc))]).length) c34⟩ (by (try dsimp only); exact ⟨oO, oO, (times_nx (by have hq := q_2; rw [drop_gt (x := i) oO oO] at hq; exact hq) (nextPl_n (by assumption)) (stopB_b hk4).1 (stopB_b hk4).2 hok), oO, oO, oO, oO, oO, (by simp only [List.length_append, List.length_singleton]; omega)⟩) dO (Sub.get (.c4 G G G G (.c4 G G G G (.c G .n)))) (kp (.d (.c (.t2 .h) (.c (.t2 .h) (.c (.t2 .h) (.c (.t2 .h) (.c (.t2 .h) (.c (.t2 .h) .n)))))))))
   refine .skipgo idQ (.seq ?_)
   have hist : isStop p (gt l i) = true := Classical.not_not.1 (by assumption)
   have hk4 : ¬ (gt l i).kind = 4 := by have := is_kind hist; omega
   have hW1 := stop_ok hL hist
   have hct : -1 ≤ cellF p.tn p.time pa ((stopD p (gt l i)).pl) ∧ cellF p.tn p.time pa ((stopD p (gt l i)).pl) ≤ 32000000 := cellF_rng hL.tc
   have hcd : -1 ≤ cellF p.dn p.dist pa ((stopD p (gt l i)).pl) ∧ cellF p.dn p.dist pa ((stopD p (gt l i)).pl) ≤ 32000000 := cellF_rng hL.dc
   refine .region (.m G G G (.f fo29_1 1 G G G G (.v (ev_lda (cs := [.int .i64 p.tn, .slice p.ptA p.time.length p.ptc]) G G (At.own 8 G G) ty24) G ?_)))
   refine .m G G G (.f fo78_0 0 G G G G (.l ty3 0 G G G G G (.cons (st_callk G G G G hbd95 G .n (rcell_ p.tn p.ptA p.ptc p.time pa ((stopD p (gt l i)).pl) _ _ hPB.1 (by have := hL.tn; have := hL.dn; omega) (by first | exact hL.tlen | (rw [hL.dn]; exact hL.dlen))) ?_))))
   refine .v (ev_add G G G (r := (now + (cellF p.tn p.time pa ((stopD p (gt l i)).pl)))) G oO oO) G (.a G G G (.go idQ (.seq ?_)))
   refine SC.draw mo [cel b13 [.int .i64 k, u_W, .int .i64 tm, .int .i64 ds, .int .i64 wt, .int .i64 sr, .int .i64 0] 86] [(10, fun w => At w b13 0 [.int .i64 k, u_W, .int .i64 tm, .int .i64 ds, .int .i64 wt, .int .i64 sr, .int .i64 0])] (.c (.t .h) .n) (fun w_ _ hw_ => (sc1 (At.whole 0 G w_ hw_) sc0)) (fun wf_37 hl_37 hx_37 hR_37 => ?_)
   refine SR.z 0 G G (ev_fa G fo86_2 G (r := 2) G) ?_
   refine SR.z 1 G G (ev_ld1 G ty3 G (At.elem1 (v := .int .i64 tm) (At.ofcs 0 G kR) 2 G)) ?_
   refine SR.z 2 G G (ev_fa G fo29_1 G (r := 1) G) ?_
   refine SR.z 3 G G (ev_lda (cs := [.int .i64 p.tn, .slice p.ptA p.time.length p.ptc]) G G (At.d (At.lent hR_37 7 G G)) ty24) ?_
   refine SR.m 4 G G G G ?_
   refine SR.z 5 G G (ev_fa G fo78_0 G (r := 0) G) ?_
   refine SR.z 6 G G (ev_ld1 G ty3 G (At.d (At.lent hR_37 0 G G))) ?_
   refine SR.o 7 G (st_callk G G G G hbd95 G .n (rcell_ p.tn p.ptA p.ptc p.time pa ((stopD p (gt l i)).pl) _ _ (((hPB).ext hx_37).1) (by have := hL.tn; have := hL.dn; omega) (by first | exact hL.tlen | (rw [hL.dn]; exact hL.dlen))) ⟨ttw 0 G, ?_⟩)
   refine SR.z 8 G G (ev_add G G G (r := (tm + (cellF p.tn p.time pa ((stopD p (gt l i)).pl)))) G oO oO) ?_
   refine SR.z 9 G G (ev_fa G fo86_2 G (r := 2) G) ?_
   refine SR.o 10 G (st_store1 G G G ty3 G G G .h (.t2 .h) ⟨ttc (fun w_ hw_ => (tc2 kR tc0)), ?_⟩)
   refine SR.fin kR hl_37 hx_37 hR_37 (.c .n) ?_
   refine SQ.go idQ ?_
   refine .seq ?_
   refine SC.draw mo [cel b13 [.int .i64 k, u_W, .int .i64 (tm + (cellF p.tn p.time pa ((stopD p (gt l i)).pl))), .int .i64 ds, .int .i64 wt, .int .i64 sr, .int .i64 0] 86] [(10, fun w => At w b13 0 [.int .i64 k, u_W, .int .i64 (tm + (cellF p.tn p.time pa ((stopD p (gt l i)).pl))), .int .i64 ds, .int .i64 wt, .int .i64 sr, .int .i64 0])] (.c .h .n) (fun w_ _ hw_ => (sc1 (At.whole 0 G w_ hw_) sc0)) (fun wf_38 hl_38 hx_38 hR_38 => ?_)
   refine SR.z 0 G G (ev_fa G fo86_3 G (r := 3) G) ?_
   refine SR.z 1 G G (ev_ld1 G ty3 G (At.elem1 (v := .int .i64 ds) (At.ofcs 0 G kR) 3 G)) ?_
   refine SR.z 2 G G (ev_fa G fo29_2 G (r := 3) G) ?_
   refine SR.z 3 G G (ev_lda (cs := [.int .i64 p.dn, .slice p.pdA p.dist.length p.pdc]) G G (At.d (At.lent hR_38 7 G G)) ty24) ?_
   refine SR.m 4 G G G G ?_
   refine SR.z 5 G G (ev_fa G fo78_0 G (r := 0) G) ?_
   refine SR.z 6 G G (ev_ld1 G ty3 G (At.d (At.lent hR_38 0 G G))) ?_
   refine SR.o 7 G (st_callk G G G G hbd95 G .n (rcell_ p.dn p.pdA p.pdc p.dist pa ((stopD p (gt l i)).pl) _ _ (((hPB).ext hx_38).2.1) (by have := hL.tn; have := hL.dn; omega) (by first | exact hL.tlen | (rw [hL.dn]; exact hL.dlen))) ⟨ttw 0 G, ?_⟩)
   refine SR.z 8 G G (ev_add G G G (r := (ds + (cellF p.dn p.dist pa ((stopD p (gt l i)).pl)))) G oO oO) ?_
   refine SR.z 9 G G (ev_fa G fo86_3 G (r := 3) G) ?_
   refine SR.o 10 G (st_store1 G G G ty3 G G G .h (.t2 (.t .h)) ⟨ttc (fun w_ hw_ => (tc2 kR tc0)), ?_⟩)
   refine SR.fin kR hl_38 hx_38 hR_38 (.c .n) ?_
   refine SQ.go idQ ?_
   refine .seq (.region (.f fo78_2 2 G G G G (.l ty73 1 G G G G G (.m G G G ?_))))
   refine .cons (st_callk G G G G hbd96 G .n (rstart_ ((stopD p (gt l i)).soA) ((stopD p (gt l i)).soc) ((stopD p (gt l i)).sws) (now + (cellF p.tn p.time pa ((stopD p (gt l i)).pl))) _ _ (stopD_F hPB _) hW1.win) ?_)
   refine .m G G G (.x G G G G (.x G G G G (.a G G G ?_)))
   refine .a G G G (.go idQ (.seq (.seq (.region (.m G G G (.v (ev_not G G) G ?_))))))
   refine .go idQ (.condI G (bN bV) (fun h39 => ?_) (fun h39 => ?_))
   ·
    refine .seq (.region (.v (ev_any (v := .agg #[.int .i64 0, .slice none 0 0, .int .i64 0, .int .i64 0, .int .i64 0, .int .i64 0, .int .i64 0]) G kR (fun _ => by kernel_rfl)) G (.cons (st_storea (l' := [.int .i64 0, .slice none 0 0, .int .i64 0, .int .i64 0, .int .i64 0, .int .i64 0, .int .i64 0]) G G G ty86 G G G (.t4 (.t2 (.t .h))) G G (.a G G G ?_)))))
    refine .go idQ (.ret idQ (retv2 results61 (.c 0 G G ty86) (.t G) .n ⟨0, none, 0, 0, (by rw [plan_ok (by assumption) hck, timesF_none (times_no (by have hq := q_2; rw [drop_gt (x := i) oO oO] at hq; exact hq) (nextPl_y hist) (stopB_n hk4).1 (by assumption))]; rfl), G⟩))
   refine .skipgo idQ (.seq ?_)
   have hsb := stopB_bd (x := gt l i) (t := (now + (cellF p.tn p.time pa ((stopD p (gt l i)).pl)))) hL hV (fun h4_ => (breaks_item hc0.2 (Int.le_refl _)).2 _ (gt_mem (i := i) oO oO) h4_)
   rw [(stopB_n hk4).1, (stopB_n hk4).2] at hsb
   have hok : (startF ((stopD p (gt l i)).sws) (now + (cellF p.tn p.time pa ((stopD p (gt l i)).pl)))).2 = true := Classical.not_not.1 (by assumption)
   have hsb2 := hsb.2.2 hok
   refine .region (.f fo86_4 4 G G G G (.l ty3 0 G G G G G (.m G G G ?_)))
   refine .v (ev_add G G G (r := (wt + ((startF ((stopD p (gt l i)).sws) (now + (cellF p.tn p.time pa ((stopD p (gt l i)).pl)))).1))) G oO oO) G (.m G G G (.v (ev_sub G G G (r := ((wt + ((startF ((stopD p (gt l i)).sws) (now + (cellF p.tn p.time pa ((stopD p (gt l i)).pl)))).1)) - (now + (cellF p.tn p.time pa ((stopD p (gt l i)).pl))))) G oO oO) G (.f fo86_4 4 G G G G ?_)))
   refine .cons (st_store1 G G G ty3 G G G .h (.t4 .h) ?_)
   refine .go idQ (.seq (.region (.f fo86_5 5 G G G G (.l ty3 0 G G G G G (.f fo78_1 1 G G G G ?_)))))
   refine .l ty3 1 G G G G G (.v (ev_add G G G (r := (sr + ((stopD p (gt l i)).srv))) G oO oO) G (.f fo86_5 5 G G G G (.cons (st_store1 G G G ty3 G G G .h (.t4 (.t .h)) ?_))))
   refine .go idQ (.seq ?_)
   refine SC.draw mo [cel b13 [.int .i64 k, u_W, .int .i64 (tm + (cellF p.tn p.time pa ((stopD p (gt l i)).pl))), .int .i64 (ds + (cellF p.dn p.dist pa ((stopD p (gt l i)).pl))), .int .i64 ((wt + ((startF ((stopD p (gt l i)).sws) (now + (cellF p.tn p.time pa ((stopD p (gt l i)).pl)))).1)) - (now + (cellF p.tn p.time pa ((stopD p (gt l i)).pl)))), .int .i64 (sr + ((stopD p (gt l i)).srv)), .int .i64 0] 86, rw_ eST 176 (u_W) W] [(27, fun w => At w b13 0 [.int .i64 k, u_W, .int .i64 (tm + (cellF p.tn p.time pa ((stopD p (gt l i)).pl))), .int .i64 (ds + (cellF p.dn p.dist pa ((stopD p (gt l i)).pl))), .int .i64 ((wt + ((startF ((stopD p (gt l i)).sws) (now + (cellF p.tn p.time pa ((stopD p (gt l i)).pl)))).1)) - (now + (cellF p.tn p.time pa ((stopD p (gt l i)).pl)))), .int .i64 (sr + ((stopD p (gt l i)).srv)), .int .i64 0])] (.c .h (.c (.t .h) .n)) (fun w_ _ hw_ => (sc1 (At.whole 0 G w_ hw_) sc0)) (fun wf_40 hl_40 hx_40 hR_40 => ?_)
   refine SR.z 0 G G (ev_fa G fo86_1 G (r := 1) G) ?_
   refine SR.z 1 G G (ev_ld1 G ty84 G (At.elem1 (v := u_W) (At.ofcs 0 G kR) 1 G)) ?_
   refine SR.m 2 G G G G ?_
   refine SR.m 3 G G G G ?_
   refine SR.z 4 G G (ev_ix G underlying52 ty92 G G oO oO (fun _ _ => Fr.adr (i := i) (Fr.ext hA hx_40) oO oO)) ?_
   refine SR.z 5 G G (ev_lda G G (At.d (Fr.el (i := i) (Fr.ext hA hx_40) oO oO)) ty92) ?_
   refine SR.z 6 G G (ev_fa G fo78_0 G (r := 0) G) ?_
   refine SR.z 7 G G (ev_ld1 G ty3 G (At.d (At.lent hR_40 0 G G))) ?_
   refine SR.m 8 G G G G ?_
   refine SR.m 9 G G G G ?_
   refine SR.m 10 G G G G ?_
   refine SR.z 11 G G (ev_sub G G G (r := (((startF ((stopD p (gt l i)).sws) (now + (cellF p.tn p.time pa ((stopD p (gt l i)).pl)))).1) - (now + (cellF p.tn p.time pa ((stopD p (gt l i)).pl))))) G oO oO) ?_
   refine SR.z 12 G G (ev_fa G fo78_1 G (r := 1) G) ?_
   refine SR.z 13 G G (ev_ld1 G ty3 G (At.d (At.lent hR_40 0 G G))) ?_
   refine SR.m 14 G G G G ?_
   refine SR.m 15 G G G G ?_
   refine SR.z 16 G G (ev_add G G G (r := (i + 1)) G oO oO) ?_
   refine SR.z 17 G G (ev_ix G underlying173 ty22 G G oO oO (fun _ _ => Fr.adr (i := (i + 1)) (Fr.lent (S := S) hR_40 2 G lO) oO oO)) ?_
   refine SR.z 18 G G (ev_ld1 G ty22 G (At.elem1 (At.d (Fr.el (i := (i + 1)) (Fr.lent (S := S) hR_40 2 G lO) oO oO)) 0 G)) ?_
   refine SR.z 19 G G (ev_fa G fo86_2 G (r := 2) G) ?_
   refine SR.z 20 G G (ev_ld1 G ty3 G (At.elem1 (v := .int .i64 (tm + (cellF p.tn p.time pa ((stopD p (gt l i)).pl)))) (At.ofcs 0 G kR) 2 G)) ?_
   refine SR.z 21 G G (ev_fa G fo86_3 G (r := 3) G) ?_
   refine SR.z 22 G G (ev_ld1 G ty3 G (At.elem1 (v := .int .i64 (ds + (cellF p.dn p.dist pa ((stopD p (gt l i)).pl)))) (At.ofcs 0 G kR) 3 G)) ?_
   refine SR.z 23 G G (ev_any (v := .agg #[.int .i64 ((gt l i).kind), .int .i64 ((gt l i).item), .int .i64 ((stopD p (gt l i)).pl), .int .i64 (now + (cellF p.tn p.time pa ((stopD p (gt l i)).pl))), .int .i64 (((startF ((stopD p (gt l i)).sws) (now + (cellF p.tn p.time pa ((stopD p (gt l i)).pl)))).1) - (now + (cellF p.tn p.time pa ((stopD p (gt l i)).pl)))), .int .i64 ((stopD p (gt l i)).srv), .slice ((gt Y7 (i + 1)).ilA) ((gt Y7 (i + 1)).il.length) ((gt Y7 (i + 1)).ilc), .int .i64 (tm + (cellF p.tn p.time pa ((stopD p (gt l i)).pl))), .int .i64 (ds + (cellF p.dn p.dist pa ((stopD p (gt l i)).pl)))]) G kR (fun _ => by kernel_rfl)) ?_
   refine SR.o 24 G (st_lit eST (e := 176) (l := [(ST.mk ((gt l i).kind) ((gt l i).item) ((stopD p (gt l i)).pl) (now + (cellF p.tn p.time pa ((stopD p (gt l i)).pl))) (((startF ((stopD p (gt l i)).sws) (now + (cellF p.tn p.time pa ((stopD p (gt l i)).pl)))).1) - (now + (cellF p.tn p.time pa ((stopD p (gt l i)).pl)))) ((stopD p (gt l i)).srv) ((gt Y7 (i + 1)).il) (tm + (cellF p.tn p.time pa ((stopD p (gt l i)).pl))) (ds + (cellF p.dn p.dist pa ((stopD p (gt l i)).pl))) ((gt Y7 (i + 1)).ilA) ((gt Y7 (i + 1)).ilc))]) G G G G kR G G kW (fun b41 => ⟨ttw 1 G, ?_⟩))
   refine SR.o 25 G (st_app (E := eST) (m := [(ST.mk ((gt l i).kind) ((gt l i).item) ((stopD p (gt l i)).pl) (now + (cellF p.tn p.time pa ((stopD p (gt l i)).pl))) (((startF ((stopD p (gt l i)).sws) (now + (cellF p.tn p.time pa ((stopD p (gt l i)).pl)))).1) - (now + (cellF p.tn p.time pa ((stopD p (gt l i)).pl)))) ((stopD p (gt l i)).srv) ((gt Y7 (i + 1)).il) (tm + (cellF p.tn p.time pa ((stopD p (gt l i)).pl))) (ds + (cellF p.dn p.dist pa ((stopD p (gt l i)).pl))) ((gt Y7 (i + 1)).ilA) ((gt Y7 (i + 1)).ilc))]) G G G G underlying84 ai176 G G G (.t2 .h) rO (row_src 0 G) lO G (fun v42 => ⟨ttw 2 G, ?_⟩))
   refine SR.z 26 G G (ev_fa G fo86_1 G (r := 1) G) ?_
   refine .know (row_len 0 G) (fun hv45 => ?_)
   obtain ⟨A43, c44, rfl, hv45_1, hv45_2⟩ := hv45
   unfold maxLen at hv45_2
   refine SR.o 27 G (st_store1 G G G ty84 G G G (.t2 .h) (.t .h) ⟨ttc (fun w_ hw_ => (tc2 kR tc0)), ?_⟩)
   refine SR.fin kR hl_40 hx_40 hR_40 (.c (.c (.c .n))) ?_
   refine SQ.go idQ ?_
   refine SC.draw mo [] [] .n (fun _ _ _ => sc0) (fun wf_46 hl_46 hx_46 hR_46 => ?_)
   refine SR.m 0 G G G G ?_
   refine SR.z 1 G G (ev_fa G fo78_1 G (r := 1) G) ?_
   refine SR.z 2 G G (ev_ld1 G ty3 G (At.d (At.lent hR_46 3 G G))) ?_
   refine SR.z 3 G G (ev_add G G G (r := (((startF ((stopD p (gt l i)).sws) (now + (cellF p.tn p.time pa ((stopD p (gt l i)).pl)))).1) + ((stopD p (gt l i)).srv))) G oO oO) ?_
   refine SR.z 4 G G (ev_fa G fo78_0 G (r := 0) G) ?_
   refine SR.z 5 G G (ev_ld1 G ty3 G (At.d (At.lent hR_46 3 G G))) ?_
   refine SR.z 6 G G (ev_as G G) ?_
   refine SR.z 7 G G (ev_as G G) ?_
   refine SR.fin kR hl_46 hx_46 hR_46 .n ?_
   refine SQ.go idQ ?_
   refine .region (.m G G G (.p ((i + 1)) oO oO G G G G G (.a G G G ?_)))
   exact SP.nil (SQ.roundb (X := Int × Int × Int × Int × Int × Int × Int × (List ST) × Value) (x := (i, now, pa, tm, ds, wt, sr, W, u_W)) ⟨(i + 1), (((startF ((stopD p (gt l i)).sws) (now + (cellF p.tn p.time pa ((stopD p (gt l i)).pl)))).1) + ((stopD p (gt l i)).srv)), (stopD p (gt l i)).pl, (tm + (cellF p.tn p.time pa ((stopD p (gt l i)).pl))), (ds + (cellF p.dn p.dist pa ((stopD p (gt l i)).pl))), ((wt + ((startF ((stopD p (gt l i)).sws) (now + (cellF p.tn p.time pa ((stopD p (gt l i)).pl)))).1)) - (now + (cellF p.tn p.time pa ((stopD p (gt l i)).pl)))), (sr + ((stopD p (gt l i)).srv)), (W ++ [(ST.mk ((gt l i).kind) ((gt l i).item) ((stopD p (gt l i)).pl) (now + (cellF p.tn p.time pa ((stopD p (gt l i)).pl))) (((startF ((stopD p (gt l i)).sws) (now + (cellF p.tn p.time pa ((stopD p (gt l i)).pl)))).1) - (now + (cellF p.tn p.time pa ((stopD p (gt l i)).pl)))) ((stopD p (gt l i)).srv) ((gt Y7 (i + 1)).il) (tm + (cellF p.tn p.time pa ((stopD p (gt l i)).pl))) (ds + (cellF p.dn p.dist pa ((stopD p (gt l i)).pl))) ((gt Y7 (i + 1)).ilA) ((gt Y7 (i + 1)).ilc))]), .slice A43 ((W ++ [(ST.mk ((gt l i).kind) ((gt l i).item) ((stopD p (gt l i)).pl) (now + (cellF p.tn p.time pa ((stopD p (gt l i)).pl))) (((startF ((stopD p (gt l i)).sws) (now + (cellF p.tn p.time pa ((stopD p (gt l i)).pl)))).1) - (now + (cellF p.tn p.time pa ((stopD p (gt l i)).pl)))) ((stopD p (gt l i)).srv) ((gt Y7 (i + 1)).il) (tm + (cellF p.tn p.time pa ((stopD p (gt l i)).pl))) (ds + (cellF p.dn p.dist pa ((stopD p (gt l i)).pl))) ((gt Y7 (i + 1)).ilA) ((gt Y7 (i + 1)).ilc))]).length) c44⟩ (by (try dsimp only); exact ⟨oO, oO, (times_nx (by have hq := q_2; rw [drop_gt (x := i) oO oO] at hq; exact hq) (nextPl_y hist) (stopB_n hk4).1 (stopB_n hk4).2 hok), oO, oO, oO, oO, oO, (by simp only [List.length_append, List.length_singleton]; omega)⟩) dO (Sub.get (.c4 G G G G (.c4 G G G G (.c G .n)))) (kp (.d (.c (.t2 .h) (.c (.t2 .h) (.c (.t2 .h) (.c (.t2 .h) (.c (.t2 .h) (.c (.t2 .h) .n)))))))))
  refine SR.z 0 G G (ev_lda (cs := (cPB p)) G G (At.d (At.lent hR_22 7 G G)) ty29) ?_
  refine SR.m 1 G G G G ?_
  refine SR.m 2 G G G G ?_
  refine SR.z 3 G G (ev_ix G underlying52 ty92 G G oO oO (fun _ _ => Fr.adr (i := i) (Fr.ext hA hx_22) oO oO)) ?_
  refine SR.z 4 G G (ev_lda G G (At.d (Fr.el (i := i) (Fr.ext hA hx_22) oO oO)) ty92) ?_
  refine SR.two (i := 5) (j := 9) kR ⟨_, G, ?_⟩ ⟨_, G, ?_⟩
  ·
   refine st_callk G G G G hbd94 G .n (rstop_ p (gt l i) _ _ ((hPB).ext hx_22)) ⟨tt0, ?_⟩
   refine SR.m 6 G G G G ?_
   refine SR.z 7 G G (ev_ext G G G) ?_
   refine SR.z 8 G G (ev_ext G G G) ?_
   refine SR.o 9 G (st_alloc G G G G zf78 (fun b47 => ⟨tt0, ?_⟩))
   refine SR.o 10 G (st_storea (l' := [.int .i64 ((stopD p (gt l i)).pl), .int .i64 ((stopD p (gt l i)).srv), .slice ((stopD p (gt l i)).soA) ((stopD p (gt l i)).sws.length) ((stopD p (gt l i)).soc)]) G G G ty78 G G G .h G G ⟨tt0, ?_⟩)
   refine SR.z 11 G G (ev_as G G) ?_
   refine SR.fin kR hl_22 hx_22 hR_22 (.c .n) ?_
   exact SQ.weak (key24 b47) (Sub.get (.c4 G G G G (.c4 G G G G (.c4 G G G G (.c4 G G G G (.c4 G G G G (.c4 G G G G .n))))))) (kp (.d (.d (.d (.d (.c .h .n))))))
  refine st_alloc G G G G zf78 (fun b48 => ⟨tt0, ?_⟩)
  refine SR.o 5 G (st_callk G G G G hbd94 G .n (rstop_ p (gt l i) _ _ ((hPB).ext hx_22)) ⟨tt0, ?_⟩)
  refine SR.m 6 G G G G ?_
  refine SR.z 7 G G (ev_ext G G G) ?_
  refine SR.z 8 G G (ev_ext G G G) ?_
  refine SR.o 10 G (st_storea (l' := [.int .i64 ((stopD p (gt l i)).pl), .int .i64 ((stopD p (gt l i)).srv), .slice ((stopD p (gt l i)).soA) ((stopD p (gt l i)).sws.length) ((stopD p (gt l i)).soc)]) G G G ty78 G G G .h G G ⟨tt0, ?_⟩)
  refine SR.z 11 G G (ev_as G G) ?_
  refine SR.fin kR hl_22 hx_22 hR_22 (.c .n) ?_
  exact SQ.weak (key24 b48) (Sub.get (.c4 G G G G (.c4 G G G G (.c4 G G G G (.c4 G G G G (.c4 G G G G (.c4 G G G G .n))))))) (kp (.d (.d (.d (.d (.c .h .n))))))
 refine .exit idQ ?_
 refine .seq ?_
 have hfin := times_fin (V := (gt p.vehs k)) (l := l) (by have hq := q_2; rw [drop_end (i := i) oO] at hq; exact hq)
 have hcte : -1 ≤ cellF p.tn p.time pa (gt p.vehs k).en ∧ cellF p.tn p.time pa (gt p.vehs k).en ≤ 32000000 := cellF_rng hL.tc
 have hcde : -1 ≤ cellF p.dn p.dist pa (gt p.vehs k).en ∧ cellF p.dn p.dist pa (gt p.vehs k).en ≤ 32000000 := cellF_rng hL.dc
 refine .region (.m G G G (.f fo29_1 1 G G G G (.v (ev_lda (cs := [.int .i64 p.tn, .slice p.ptA p.time.length p.ptc]) G G (At.own 7 G G) ty24) G ?_)))
 refine .m G G G (.f fo72_1 1 G G G G (.l ty3 5 G G G G G (.cons (st_callk G G G G hbd95 G .n (rcell_ p.tn p.ptA p.ptc p.time pa ((gt p.vehs k).en) _ _ hPB.1 (by have := hL.tn; have := hL.dn; omega) (by first | exact hL.tlen | (rw [hL.dn]; exact hL.dlen))) ?_))))
 refine .v (ev_add G G G (r := (now + (cellF p.tn p.time pa ((gt p.vehs k).en)))) G oO oO) G (.a G G G (.go idQ (.seq (.seq (.region (.m G G G ?_))))))
 refine .f fo72_4 4 G G G G (.f fo69_1 5 G G G G (.l ty3 5 G G G G G (.e G G G G G ?_)))
 refine .go idQ (.condI G bD (fun h49 => ?_) (fun h49 => ?_))
 ·
  refine .seq (.region (.v (ev_any (v := .agg #[.int .i64 0, .slice none 0 0, .int .i64 0, .int .i64 0, .int .i64 0, .int .i64 0, .int .i64 0]) G kR (fun _ => by kernel_rfl)) G (.cons (st_storea (l' := [.int .i64 0, .slice none 0 0, .int .i64 0, .int .i64 0, .int .i64 0, .int .i64 0, .int .i64 0]) G G G ty86 G G G (.t4 (.t2 .h)) G G (.a G G G ?_)))))
  refine .go idQ (.ret idQ (retv2 results61 (.c 0 G G ty86) (.t G) .n ⟨0, none, 0, 0, (by rw [plan_ok (by assumption) hck, hfin, if_pos (by assumption)]; rfl), G⟩))
 refine .skipgo idQ (.seq ?_)
 refine SC.draw mo [cel b13 [.int .i64 k, u_W, .int .i64 tm, .int .i64 ds, .int .i64 wt, .int .i64 sr, .int .i64 0] 86] [(10, fun w => At w b13 0 [.int .i64 k, u_W, .int .i64 tm, .int .i64 ds, .int .i64 wt, .int .i64 sr, .int .i64 0])] (.c .h .n) (fun w_ _ hw_ => (sc1 (At.whole 0 G w_ hw_) sc0)) (fun wf_50 hl_50 hx_50 hR_50 => ?_)
 refine SR.z 0 G G (ev_fa G fo86_2 G (r := 2) G) ?_
 refine SR.z 1 G G (ev_ld1 G ty3 G (At.elem1 (v := .int .i64 tm) (At.ofcs 0 G kR) 2 G)) ?_
 refine SR.z 2 G G (ev_fa G fo29_1 G (r := 1) G) ?_
 refine SR.z 3 G G (ev_lda (cs := [.int .i64 p.tn, .slice p.ptA p.time.length p.ptc]) G G (At.d (At.lent hR_50 6 G G)) ty24) ?_
 refine SR.m 4 G G G G ?_
 refine SR.z 5 G G (ev_fa G fo72_1 G (r := 1) G) ?_
 refine SR.z 6 G G (ev_ld1 G ty3 G (At.d (At.lent hR_50 4 G G))) ?_
 refine SR.o 7 G (st_callk G G G G hbd95 G .n (rcell_ p.tn p.ptA p.ptc p.time pa ((gt p.vehs k).en) _ _ (((hPB).ext hx_50).1) (by have := hL.tn; have := hL.dn; omega) (by first | exact hL.tlen | (rw [hL.dn]; exact hL.dlen))) ⟨ttw 0 G, ?_⟩)
 refine SR.z 8 G G (ev_add G G G (r := (tm + (cellF p.tn p.time pa ((gt p.vehs k).en)))) G oO oO) ?_
 refine SR.z 9 G G (ev_fa G fo86_2 G (r := 2) G) ?_
 refine SR.o 10 G (st_store1 G G G ty3 G G G .h (.t2 .h) ⟨ttc (fun w_ hw_ => (tc2 kR tc0)), ?_⟩)
 refine SR.fin kR hl_50 hx_50 hR_50 (.c .n) ?_
 refine SQ.go idQ ?_
 refine .seq ?_
 refine SC.draw mo [cel b13 [.int .i64 k, u_W, .int .i64 (tm + (cellF p.tn p.time pa ((gt p.vehs k).en))), .int .i64 ds, .int .i64 wt, .int .i64 sr, .int .i64 0] 86] [(10, fun w => At w b13 0 [.int .i64 k, u_W, .int .i64 (tm + (cellF p.tn p.time pa ((gt p.vehs k).en))), .int .i64 ds, .int .i64 wt, .int .i64 sr, .int .i64 0])] (.c .h .n) (fun w_ _ hw_ => (sc1 (At.whole 0 G w_ hw_) sc0)) (fun wf_51 hl_51 hx_51 hR_51 => ?_)
 refine SR.z 0 G G (ev_fa G fo86_3 G (r := 3) G) ?_
 refine SR.z 1 G G (ev_ld1 G ty3 G (At.elem1 (v := .int .i64 ds) (At.ofcs 0 G kR) 3 G)) ?_
 refine SR.z 2 G G (ev_fa G fo29_2 G (r := 3) G) ?_
 refine SR.z 3 G G (ev_lda (cs := [.int .i64 p.dn, .slice p.pdA p.dist.length p.pdc]) G G (At.d (At.lent hR_51 6 G G)) ty24) ?_
 refine SR.m 4 G G G G ?_
 refine SR.z 5 G G (ev_fa G fo72_1 G (r := 1) G) ?_
 refine SR.z 6 G G (ev_ld1 G ty3 G (At.d (At.lent hR_51 4 G G))) ?_
 refine SR.o 7 G (st_callk G G G G hbd95 G .n (rcell_ p.dn p.pdA p.pdc p.dist pa ((gt p.vehs k).en) _ _ (((hPB).ext hx_51).2.1) (by have := hL.tn; have := hL.dn; omega) (by first | exact hL.tlen | (rw [hL.dn]; exact hL.dlen))) ⟨ttw 0 G, ?_⟩)
 refine SR.z 8 G G (ev_add G G G (r := (ds + (cellF p.dn p.dist pa ((gt p.vehs k).en)))) G oO oO) ?_
 refine SR.z 9 G G (ev_fa G fo86_3 G (r := 3) G) ?_
 refine SR.o 10 G (st_store1 G G G ty3 G G G .h (.t2 (.t .h)) ⟨ttc (fun w_ hw_ => (tc2 kR tc0)), ?_⟩)
 refine SR.fin kR hl_51 hx_51 hR_51 (.c .n) ?_
 refine SQ.go idQ ?_
 refine .seq ?_
 refine SC.draw mo [cel b13 [.int .i64 k, u_W, .int .i64 (tm + (cellF p.tn p.time pa ((gt p.vehs k).en))), .int .i64 (ds + (cellF p.dn p.dist pa ((gt p.vehs k).en))), .int .i64 wt, .int .i64 sr, .int .i64 0] 86, rw_ eST 176 (u_W) W] [(19, fun w => At w b13 0 [.int .i64 k, u_W, .int .i64 (tm + (cellF p.tn p.time pa ((gt p.vehs k).en))), .int .i64 (ds + (cellF p.dn p.dist pa ((gt p.vehs k).en))), .int .i64 wt, .int .i64 sr, .int .i64 0])] (.d .n) (fun w_ _ hw_ => (sc1 (At.whole 0 G w_ hw_) sc0)) (fun wf_52 hl_52 hx_52 hR_52 => ?_)
 refine SR.z 0 G G (ev_fa G fo86_1 G (r := 1) G) ?_
 refine SR.z 1 G G (ev_ld1 G ty84 G (At.elem1 (v := u_W) (At.ofcs 0 G kR) 1 G)) ?_
 refine SR.z 2 G G (ev_any (v := .agg #[.int .i64 6, .int .i64 0]) G kR (fun _ => by kernel_rfl)) ?_
 refine SR.z 3 G G (ev_fa G fo72_1 G (r := 1) G) ?_
 refine SR.z 4 G G (ev_ld1 G ty3 G (At.d (At.lent hR_52 3 G G))) ?_
 refine SR.m 5 G G G G ?_
 refine SR.m 6 G G G G ?_
 refine SR.m 7 G G G G ?_
 refine SR.z 8 G G (ev_len G underlying52 G) ?_
 refine SR.z 9 G G (ev_ix G underlying173 ty22 G G oO oO (fun _ _ => Fr.adr (i := (l.length : Int)) (Fr.lent (S := S) hR_52 1 G lO) oO oO)) ?_
 refine SR.z 10 G G (ev_ld1 G ty22 G (At.elem1 (At.d (Fr.el (i := (l.length : Int)) (Fr.lent (S := S) hR_52 1 G lO) oO oO)) 0 G)) ?_
 refine SR.z 11 G G (ev_fa G fo86_2 G (r := 2) G) ?_
 refine SR.z 12 G G (ev_ld1 G ty3 G (At.elem1 (v := .int .i64 (tm + (cellF p.tn p.time pa ((gt p.vehs k).en)))) (At.ofcs 0 G kR) 2 G)) ?_
 refine SR.z 13 G G (ev_fa G fo86_3 G (r := 3) G) ?_
 refine SR.z 14 G G (ev_ld1 G ty3 G (At.elem1 (v := .int .i64 (ds + (cellF p.dn p.dist pa ((gt p.vehs k).en)))) (At.ofcs 0 G kR) 3 G)) ?_
 refine SR.z 15 G G (ev_any (v := .agg #[.int .i64 6, .int .i64 0, .int .i64 ((gt p.vehs k).en), .int .i64 (now + (cellF p.tn p.time pa ((gt p.vehs k).en))), .int .i64 0, .int .i64 0, .slice ((gt Y7 (l.length : Int)).ilA) ((gt Y7 (l.length : Int)).il.length) ((gt Y7 (l.length : Int)).ilc), .int .i64 (tm + (cellF p.tn p.time pa ((gt p.vehs k).en))), .int .i64 (ds + (cellF p.dn p.dist pa ((gt p.vehs k).en)))]) G kR (fun _ => by kernel_rfl)) ?_
 refine SR.o 16 G (st_lit eST (e := 176) (l := [(ST.mk 6 0 ((gt p.vehs k).en) (now + (cellF p.tn p.time pa ((gt p.vehs k).en))) 0 0 ((gt Y7 (l.length : Int)).il) (tm + (cellF p.tn p.time pa ((gt p.vehs k).en))) (ds + (cellF p.dn p.dist pa ((gt p.vehs k).en))) ((gt Y7 (l.length : Int)).ilA) ((gt Y7 (l.length : Int)).ilc))]) G G G G kR G G kW (fun b53 => ⟨ttw 1 G, ?_⟩))
 refine SR.o 17 G (st_app (E := eST) (m := [(ST.mk 6 0 ((gt p.vehs k).en) (now + (cellF p.tn p.time pa ((gt p.vehs k).en))) 0 0 ((gt Y7 (l.length : Int)).il) (tm + (cellF p.tn p.time pa ((gt p.vehs k).en))) (ds + (cellF p.dn p.dist pa ((gt p.vehs k).en))) ((gt Y7 (l.length : Int)).ilA) ((gt Y7 (l.length : Int)).ilc))]) G G G G underlying84 ai176 G G G (.t2 .h) rO (row_src 0 G) lO G (fun v54 => ⟨ttw 2 G, ?_⟩))
 refine SR.z 18 G G (ev_fa G fo86_1 G (r := 1) G) ?_
 refine .know (row_len 0 G) (fun hv57 => ?_)
 obtain ⟨A55, c56, rfl, hv57_1, hv57_2⟩ := hv57
 unfold maxLen at hv57_2
 refine SR.o 19 G (st_store1 G G G ty84 G G G (.t2 .h) (.t .h) ⟨ttc (fun w_ hw_ => (tc2 kR tc0)), ?_⟩)
 refine SR.fin kR hl_52 hx_52 hR_52 (.c (.c (.c .n))) ?_
 refine SQ.go idQ ?_
 refine .seq ?_
 have hm1 := mulb (a := tm + cellF p.tn p.time pa (gt p.vehs k).en) (b := (gt p.vehs k).pt) oO oO oO oO
 have hm2 := mulb (a := ds + cellF p.dn p.dist pa (gt p.vehs k).en) (b := (gt p.vehs k).pd) oO oO oO oO
 refine .region (.f fo72_5 6 G G G G (.l ty3 6 G G G G G (.f fo86_2 2 G G G G ?_)))
 refine .l ty3 0 G G G G G (.f fo72_6 7 G G G G (.l ty3 6 G G G G G (.v (ev_mul G G G (r := ((tm + (cellF p.tn p.time pa ((gt p.vehs k).en))) * ((gt p.vehs k).pt))) G (by have hm_ := mulb (a := (tm + (cellF p.tn p.time pa ((gt p.vehs k).en)))) (b := ((gt p.vehs k).pt)) oO oO oO oO; omega) (by have hm_ := mulb (a := (tm + (cellF p.tn p.time pa ((gt p.vehs k).en)))) (b := ((gt p.vehs k).pt)) oO oO oO oO; omega)) G ?_)))
 refine .v (ev_add G G G (r := (((gt p.vehs k).fix) + ((tm + (cellF p.tn p.time pa ((gt p.vehs k).en))) * ((gt p.vehs k).pt)))) G oO oO) G (.f fo86_3 3 G G G G (.l ty3 0 G G G G G (.f fo72_7 8 G G G G ?_)))
 refine .l ty3 6 G G G G G (.v (ev_mul G G G (r := ((ds + (cellF p.dn p.dist pa ((gt p.vehs k).en))) * ((gt p.vehs k).pd))) G (by have hm_ := mulb (a := (ds + (cellF p.dn p.dist pa ((gt p.vehs k).en)))) (b := ((gt p.vehs k).pd)) oO oO oO oO; omega) (by have hm_ := mulb (a := (ds + (cellF p.dn p.dist pa ((gt p.vehs k).en)))) (b := ((gt p.vehs k).pd)) oO oO oO oO; omega)) G (.v (ev_add G G G (r := ((((gt p.vehs k).fix) + ((tm + (cellF p.tn p.time pa ((gt p.vehs k).en))) * ((gt p.vehs k).pt))) + ((ds + (cellF p.dn p.dist pa ((gt p.vehs k).en))) * ((gt p.vehs k).pd)))) G oO oO) G (.f fo86_6 6 G G G G ?_)))
 refine .cons (st_store1 G G G ty3 G G G .h (.t4 (.t2 .h)) ?_)
 refine .go idQ (.seq (.region (.d 0 ty86 G G G G (.cons (st_storea (l' := [.int .i64 k, .slice A55 ((W ++ [(ST.mk 6 0 ((gt p.vehs k).en) (now + (cellF p.tn p.time pa ((gt p.vehs k).en))) 0 0 ((gt Y7 (l.length : Int)).il) (tm + (cellF p.tn p.time pa ((gt p.vehs k).en))) (ds + (cellF p.dn p.dist pa ((gt p.vehs k).en))) ((gt Y7 (l.length : Int)).ilA) ((gt Y7 (l.length : Int)).ilc))]).length) c56, .int .i64 (tm + (cellF p.tn p.time pa ((gt p.vehs k).en))), .int .i64 (ds + (cellF p.dn p.dist pa ((gt p.vehs k).en))), .int .i64 wt, .int .i64 sr, .int .i64 ((((gt p.vehs k).fix) + ((tm + (cellF p.tn p.time pa ((gt p.vehs k).en))) * ((gt p.vehs k).pt))) + ((ds + (cellF p.dn p.dist pa ((gt p.vehs k).en))) * ((gt p.vehs k).pd)))]) G G G ty86 G G G (.t4 (.t2 (.t .h))) G G (.a G G G ?_))))))
 refine .go idQ (.ret idQ (retv2 results61 (.c 0 G G ty86) (.t G) .n ⟨k, A55, (W ++ [(ST.mk 6 0 ((gt p.vehs k).en) (now + (cellF p.tn p.time pa ((gt p.vehs k).en))) 0 0 ((gt Y7 (l.length : Int)).il) (tm + (cellF p.tn p.time pa ((gt p.vehs k).en))) (ds + (cellF p.dn p.dist pa ((gt p.vehs k).en))) ((gt Y7 (l.length : Int)).ilA) ((gt Y7 (l.length : Int)).ilc))]).length, c56, (by rw [plan_ok (by assumption) hck, hfin, if_neg (by assumption)]), G⟩))
theorem rset_ (A : Option Addr) (c : Nat) (l : List Vis) (B : Option Addr) (n : Nat) (d : Nat) (a : List Int) (S : Nat → Prop) (wf : World) (hA : Fr eVis S wf A l) (hB : Fr eZ S wf B a) (hn : a.length = n) (hll : l.length ≤ 60) (ha : AtOk l.length a) :
  TR0 prog 62 [.slice A l.length c, .slice B n d] [] S wf (fun v_ C_ => ∃ (u : Value), v_ = u ∧ C_ = [rw_ eVis 92 (u) (setR l 0 0 a)]) := by
 have hla := hA.len
 have hal := ha.1
 refine TR.mk func62 G ntmps62 G G (fun w_ => ?_)
 refine .seq (.region (.a G G G (.go idQ (.seq (.region (.a G G G ?_))))))
 refine .go idQ (.seq (.seq (.region (.a G G G (.go idQ (.block ?_))))))
 refine SC.nilrow eVis 92 ?_
 refine .loop (X := Int × (List Vis) × Value) (fun ⟨i, X, u_X⟩ => 0 ≤ i ∧ i ≤ (l.length : Int) + 1 ∧ (i ≤ (l.length : Int) → X ++ setQ a (l.drop i.toNat) i = setQ a l 0) ∧ (i = (l.length : Int) + 1 → X = setQ a l 0) ∧ (X.length : Int) ≤ 3 * i) (fun ⟨i, X, u_X⟩ => [(0, .slice A l.length c), (1, .slice B n d), (4, .slice none 0 0), (6, .int .i64 i), (5, u_X)]) (fun ⟨i, X, u_X⟩ => [rw_ eVis 92 (u_X) X]) (fun _ => S) (fun _ => wf) (fun ⟨i, X, u_X⟩ => ((l.length : Int) + 1 - i).toNat) (fun a_ w_ hs_ hw_ => ⟨⟨0, ([] : List Vis), .slice none 0 0⟩, (by (try dsimp only); exact ⟨oO, oO, (fun _ => G), (fun h_ => by omega), (by simp)⟩), hs_.mono (Sub.get (.c4 G G G G (.c G .n))), hw_.keep (.c .h .n)⟩) (fun ⟨i, X, u_X⟩ ⟨q_0, q_1, q_2, q_3, q_4⟩ => ?_)
 try dsimp only
 refine .seq (.seq (.region (.m G G G (.m G G G (.g underlying52 G G G ?_)))))
 refine .e G G G G G (.go idQ (.condI G bD (fun h1 => ?_) (fun h1 => ?_)))
 ·
  refine .skipgo idQ (.seq (.block (.seq (.seq (.region (.a G G G (.go idQ (.block (.loop (X := (List Vis) × Value × Int) (fun ⟨Z, u_Z, k2⟩ => Z ++ blkR i k2 (a.drop k2.toNat) = X ++ blkR i 0 a ∧ (0 ≤ k2 ∧ k2 ≤ (a.length : Int)) ∧ (Z.length : Int) ≤ 3 * i + k2) (fun ⟨Z, u_Z, k2⟩ => [(0, .slice A l.length c), (1, .slice B n d), (4, .slice none 0 0), (6, .int .i64 i), (5, u_Z), (7, .int .i64 k2)]) (fun ⟨Z, u_Z, k2⟩ => [rw_ eVis 92 (u_Z) Z]) (fun _ => S) (fun _ => wf) (fun ⟨Z, u_Z, k2⟩ => ((a.length : Int) - k2).toNat) (fun a_ w_ hs_ hw_ => ⟨⟨X, u_X, 0⟩, (by (try dsimp only); exact ⟨G, oO, oO⟩), hs_.mono (Sub.get (.c4 G G G G (.c G (.c G .n)))), hw_.keep (.c .h .n)⟩) (fun ⟨Z, u_Z, k2⟩ ⟨r_0, r_1, r_2⟩ => ?_))))))))))
  try dsimp only
  refine .seq (.seq (.region (.m G G G (.m G G G (.g underlying22 G G G ?_)))))
  refine .e G G G G G (.go idQ (.condI G bD (fun h2 => ?_) (fun h2 => ?_)))
  ·
   refine .skipgo idQ (.seq (.block (.seq (.region (.m G G G (.m G G G (.v (ev_ix G underlying22 ty3 G G oO oO (fun _ _ => Fr.adr (i := k2) hB oO oO)) G ?_)))))))
   refine .v (ev_ld1 G ty3 G (At.elem1 (At.w (Fr.el (i := k2) hB oO oO)) 0 G)) G (.m G G G (.e G G G G G (.go idQ ?_)))
   refine .condI G bE (fun h3 => ?_) (fun h3 => ?_)
   ·
    refine .region (.m G G G (.m G G G (.v (ev_any (v := .agg #[.int .i64 4, .int .i64 k2]) G kR (fun _ => by kernel_rfl)) G ?_)))
    refine .cons (st_lit eVis (e := 92) (l := [(Vis.mk 4 k2)]) G G G G kR G G kW (fun b4 => ?_))
    refine .cons (st_app (E := eVis) (m := [(Vis.mk 4 k2)]) G G G G underlying52 ai92 G G G (.t .h) rO (row_src 0 G) lO G (fun v5 => ?_))
    refine .a G G G (.go idQ (.region (.m G G G (.p ((k2 + 1)) oO oO G G G G G ?_))))
    refine .a G G G ?_
    exact SP.nil (SQ.roundb (X := (List Vis) × Value × Int) (x := (Z, u_Z, k2)) ⟨(Z ++ [(Vis.mk 4 k2)]), v5, (k2 + 1)⟩ (by (try dsimp only); exact ⟨(by have hq := r_0; rw [blk_drop oO oO, if_pos oO] at hq; rw [List.append_assoc]; exact hq), oO, (by (try simp only [List.length_append, List.length_singleton]); omega)⟩) dO (Sub.get (.c4 G G G G (.c G (.c G .n)))) (kp (.c .h .n)))
   refine .skipgo idQ (.region (.m G G G (.p ((k2 + 1)) oO oO G G G G G (.a G G G ?_))))
   exact SP.nil (SQ.roundb (X := (List Vis) × Value × Int) (x := (Z, u_Z, k2)) ⟨Z, u_Z, (k2 + 1)⟩ (by (try dsimp only); exact ⟨(by have hq := r_0; rw [blk_drop oO oO, if_neg oO] at hq; exact hq), oO, (by (try simp only [List.length_append, List.length_singleton]); omega)⟩) dO (Sub.get (.c4 G G G G (.c G (.c G .n)))) (kp (.c .h .n)))
  refine .exit idQ ?_
  refine .seq (.region (.m G G G (.m G G G (.g underlying52 G G G ?_))))
  refine .e G G G G G (.go idQ (.condI G bD (fun h6 => ?_) (fun h6 => ?_)))
  ·
   refine .region (.m G G G (.m G G G (.m G G G ?_)))
   refine .v (ev_ix G underlying52 ty92 G G oO oO (fun _ _ => Fr.adr (i := i) hA oO oO)) G (.v (ev_lda G G (At.w (Fr.el (i := i) hA oO oO)) ty92) G (.cons (st_lit eVis (e := 92) (l := [(gt l i)]) G G G G kR G G kW (fun b7 => (.cons (st_app (E := eVis) (m := [(gt l i)]) G G G G underlying52 ai92 G G G (.t .h) rO (row_src 0 G) lO G (fun v8 => ?_)))))))
   refine .a G G G (.go idQ (.region (.m G G G (.p ((i + 1)) oO oO G G G G G ?_))))
   refine .a G G G ?_
   exact SP.nil (SQ.roundb (X := Int × (List Vis) × Value) (x := (i, X, u_X)) ⟨(i + 1), (Z ++ [(gt l i)]), v8⟩ (by (try dsimp only); exact ⟨oO, oO, (fun _ => by have hq := r_0; rw [blk_end oO, List.append_nil] at hq; have h2_ := q_2 oO; rw [drop_gt (x := i) oO oO] at h2_; rw [hq]; simp only [setQ] at h2_; rw [List.append_assoc, List.append_assoc]; exact h2_), (fun h_ => by omega), (by (try simp only [List.length_append, List.length_singleton]); omega)⟩) dO (Sub.get (.c4 G G G G (.c G .n))) (kp (.c .h .n)))
  refine .skipgo idQ (.region (.m G G G (.p ((i + 1)) oO oO G G G G G (.a G G G ?_))))
  exact SP.nil (SQ.roundb (X := Int × (List Vis) × Value) (x := (i, X, u_X)) ⟨(i + 1), Z, u_Z⟩ (by (try dsimp only); exact ⟨oO, oO, (fun h_ => by omega), (fun _ => by have hq := r_0; rw [blk_end oO, List.append_nil] at hq; have h2_ := q_2 oO; rw [drop_end (i := i) oO] at h2_; rw [hq]; exact h2_), (by (try simp only [List.length_append, List.length_singleton]); omega)⟩) dO (Sub.get (.c4 G G G G (.c G .n))) (kp (.c .h .n)))
 refine .exit idQ ?_
 refine .seq (.region (.m G G G (.a G G G (.go idQ ?_))))
 exact .ret idQ (ret1 results62 G (.c .h .n) ⟨u_X, G, (by rw [q_3 oO, setQ_eq ha])⟩)
theorem rfit_ (p : PB) (k : Int) (A : Option Addr) (c : Nat) (l : List Vis) (S : Nat → Prop) (wf : World) (hA : Fr eVis S wf A l) (hPB : PBF S wf p) (hL : LawP p) (hll : l.length ≤ 50) :
  TR0 prog 25 [.agg (cPB p).toArray, .int .i64 k, .slice A l.length c] [] S wf (fun v_ C_ => ∃ (vh : Int) (sA : Option Addr) (sn : Nat) (sc : Nat), v_ = .tuple #[.agg #[.int .i64 vh, .slice sA sn sc, .int .i64 ((fitV p k l).time), .int .i64 ((fitV p k l).dist), .int .i64 ((fitV p k l).wait), .int .i64 ((fitV p k l).serv), .int .i64 ((fitV p k l).cost)], .int .i64 ((fitV p k l).e)] ∧ C_ = []) := by
 have hla := hA.len
 have hlv := hPB.2.2.1.1.len
 refine TR.mk func25 G ntmps25 G G (fun w_ => ?_)
 refine .seq (.region (.cons (st_boxa G G G G G (fun b1 => (.cons (st_alloc G G G G zf86 (fun b2 => (.a G G G ?_))))))))
 refine .go idQ (.seq (.seq (.region (.m G G G (.e G G G G G (.m G G G ?_))))))
 refine .w (fun _ => ev_mv G G) G (.w (fun _ => ev_fa G fo29_3 G (r := 5) G) G (.w (fun hb => ev_ld1 G ty25 (lkg G hb) (At.own1 1 G G)) G (.w (fun hb => ev_len G underlying25 (lkg G hb)) G ?_)))
 refine .w (fun hb => ev_cmp G (lkg G hb) (lkg G hb) G) G (.r G G G G G (.go idQ (.condI G (bO bD bD) (fun h3 => ?_) (fun h3 => ?_))))
 ·
  refine .seq (.region (.v (ev_any (v := .agg #[.int .i64 0, .slice none 0 0, .int .i64 0, .int .i64 0, .int .i64 0, .int .i64 0, .int .i64 0]) G kR (fun _ => by kernel_rfl)) G (.cons (st_storea (l' := [.int .i64 0, .slice none 0 0, .int .i64 0, .int .i64 0, .int .i64 0, .int .i64 0, .int .i64 0]) G G G ty86 G G G .h G G (.a G G G ?_)))))
  refine .go idQ (.ret idQ (retv2 results25 (.c 0 G G ty86) (.t G) .n ⟨0, none, 0, 0, (by rw [fit_out (by assumption)]; rfl), G⟩))
 refine .skipgo idQ (.seq (.seq (.region (.a G G G (.go idQ (.block (.loop (X := Int) (fun i => 0 ≤ i ∧ i ≤ (l.length : Int) ∧ noBr (l.drop i.toNat) = noBr l) (fun i => [(1, .int .i64 k), (2, .slice A l.length c), (3, .pointer (some ⟨b1, 0, none⟩)), (6, .pointer (some ⟨b2, 0, none⟩)), (8, .int .i64 i)]) (fun i => [cel b2 [.int .i64 0, .slice none 0 0, .int .i64 0, .int .i64 0, .int .i64 0, .int .i64 0, .int .i64 0] 86, cel b1 (cPB p) 29]) (fun _ => S) (fun _ => wf) (fun i => ((l.length : Int) - i).toNat) (fun a_ w_ hs_ hw_ => ⟨0, (by (try dsimp only); exact ⟨oO, oO, G⟩), hs_.mono (Sub.get (.c4 G G G G (.c G .n))), hw_.keep (.d .n)⟩) (fun i ⟨q_0, q_1, q_2⟩ => ?_))))))))
 try dsimp only
 refine .seq (.seq (.region (.m G G G (.m G G G (.g underlying52 G G G ?_)))))
 refine .e G G G G G (.go idQ (.condI G bD (fun h4 => ?_) (fun h4 => ?_)))
 ·
  refine .skipgo idQ (.seq (.block (.seq (.region (.m G G G (.m G G G (.v (ev_ix G underlying52 ty92 G G oO oO (fun _ _ => Fr.adr (i := i) hA oO oO)) G ?_)))))))
  refine .f fo92_0 (ao A + (i).toNat * 2) G G G G (.v (ev_ld1 G ty90 G (At.elem1 (At.w (Fr.el (i := i) hA oO oO)) 0 G)) G (.e G G G G G (.go idQ ?_)))
  refine .condI G bE (fun h5 => ?_) (fun h5 => ?_)
  ·
   refine .seq (.region (.v (ev_any (v := .agg #[.int .i64 0, .slice none 0 0, .int .i64 0, .int .i64 0, .int .i64 0, .int .i64 0, .int .i64 0]) G kR (fun _ => by kernel_rfl)) G (.cons (st_storea (l' := [.int .i64 0, .slice none 0 0, .int .i64 0, .int .i64 0, .int .i64 0, .int .i64 0, .int .i64 0]) G G G ty86 G G G .h G G (.a G G G ?_)))))
   refine .go idQ (.ret idQ (retv2 results25 (.c 0 G G ty86) (.t G) .n ⟨0, none, 0, 0, (by rw [fit_brk (by assumption) (by have hq := q_2; rw [drop_gt (x := i) oO oO, noBr_cons] at hq; (repeat' split at hq) <;> first | exact hq.symm | contradiction | (exfalso; omega))]; rfl), G⟩))
  refine .skipgo idQ (.region (.m G G G (.p ((i + 1)) oO oO G G G G G (.a G G G ?_))))
  exact SP.nil (SQ.roundb (X := Int) (x := (i)) (i + 1) (by (try dsimp only); exact ⟨oO, oO, (by have hq := q_2; rw [drop_gt (x := i) oO oO, noBr_cons] at hq; (repeat' split at hq) <;> first | exact hq | contradiction | (exfalso; omega))⟩) (by show (_ : Nat) < _; omega) (Sub.get (.c4 G G G G (.c G .n))) (kp (.d .n)))
 refine .exit idQ ?_
 refine .seq ?_
 have hnb : noBr l = true := by have hq := q_2; rw [drop_end oO] at hq; exact hq.symm
 have hV := hL.veh k oO oO
 have hbl := hV.brs
 refine .region (.f fo29_3 5 G G G G (.l ty25 1 G G G G G (.m G G G ?_)))
 refine .v (ev_ix G underlying25 ty72 G G oO oO (fun _ _ => Fr.adr (i := k) hPB.2.2.1.1 oO oO)) G (.f fo72_9 (ao p.pvA + (k).toNat * 11 + 10) G G G G (.v (ev_ld1 G ty70 G (At.elem1 (At.w (Fr.el (i := k) hPB.2.2.1.1 oO oO)) 10 G)) G (.g underlying70 G G G ?_)))
 refine .a G G G (.go idQ (.seq (.seq (.region (.m G G G (.e G G G G G ?_))))))
 refine .go idQ (.condI G bE (fun h6 => ?_) (fun h6 => ?_))
 ·
  refine .seq (.region (.d 1 ty29 G G G G (.m G G G (.m G G G ?_))))
  refine .cons (st_call00 rfl rfl rfl rfl hbd61 rfl .n (rof13_ p k A c l _ _ hA hPB oO oO) (by intro v C h; obtain ⟨_, _, _, _, rfl, rfl⟩ := h; rfl) (fun v_q11 q11 => ?_))
  obtain ⟨vh7, sA8, sn9, sc10, rfl, -⟩ := q11
  refine .x G G G G (.x G G G G (.cons (st_storea (l' := [.int .i64 vh7, .slice sA8 sn9 sc10, .int .i64 ((planP p k l).time), .int .i64 ((planP p k l).dist), .int .i64 ((planP p k l).wait), .int .i64 ((planP p k l).serv), .int .i64 ((planP p k l).cost)]) G G G ty86 G G G .h G G (.a G G G ?_))))
  refine .go idQ (.ret idQ (retv2 results25 (.c 0 G G ty86) (.t G) .n ⟨vh7, sA8, sn9, sc10, (by rw [fit_zero (by assumption) hnb oO] <;> rfl), G⟩))
 refine .skipgo idQ (.seq (.seq ?_))
 have hn12 : (gt p.vehs k).brs.length = 1 ∨ (gt p.vehs k).brs.length = 2 := by omega
 refine .region (.a G G G (.go idQ (.block (.loop (X := Int) (fun i2 => 0 ≤ i2 ∧ i2 ≤ (l.length : Int) + 1 ∧ firstC (planS p k l) (restC (((gt p.vehs k).brs.length : Nat) : Int) l.length i2) = firstC (planS p k l) (candsA l.length (zerosB p k))) (fun i2 => [(1, .int .i64 k), (2, .slice A l.length c), (3, .pointer (some ⟨b1, 0, none⟩)), (6, .pointer (some ⟨b2, 0, none⟩)), (8, .int .i64 i), (9, .int .i64 (((gt p.vehs k).brs.length : Nat) : Int)), (10, .int .i64 i2)]) (fun i2 => [cel b2 [.int .i64 0, .slice none 0 0, .int .i64 0, .int .i64 0, .int .i64 0, .int .i64 0, .int .i64 0] 86, cel b1 (cPB p) 29]) (fun _ => S) (fun _ => wf) (fun i2 => ((l.length : Int) + 1 - i2).toNat) (fun a_ w_ hs_ hw_ => ⟨0, (by (try dsimp only); exact ⟨oO, oO, (by unfold zerosB; rw [restC_all hn12 oO])⟩), hs_.mono (Sub.get (.c4 G G G G (.c G (.c G (.c G .n))))), hw_.keep (.d .n)⟩) (fun i2 ⟨r_0, r_1, r_2⟩ => ?_)))))
 try dsimp only
 refine .seq (.seq (.region (.m G G G (.m G G G (.g underlying52 G G G ?_)))))
 refine .e G G G G G (.go idQ (.condI G bD (fun h12 => ?_) (fun h12 => ?_)))
 ·
  refine .skipgo idQ (.seq (.block (.seq (.region (.m G G G (.a G G G (.go idQ (.block ?_))))))))
  refine .loop (X := Int) (fun kk => i2 ≤ kk ∧ kk ≤ (l.length : Int) + 1 ∧ ((gt p.vehs k).brs.length = 1 → kk = i2) ∧ ((gt p.vehs k).brs.length = 2 → firstC (planS p k l)  ((up kk l.length).map (fun y_ => [i2, y_]) ++ restC 2 l.length (i2 + 1)) = firstC (planS p k l) (candsA l.length (zerosB p k)))) (fun kk => [(1, .int .i64 k), (2, .slice A l.length c), (3, .pointer (some ⟨b1, 0, none⟩)), (6, .pointer (some ⟨b2, 0, none⟩)), (8, .int .i64 i), (9, .int .i64 (((gt p.vehs k).brs.length : Nat) : Int)), (10, .int .i64 i2), (11, .int .i64 kk)]) (fun kk => [cel b2 [.int .i64 0, .slice none 0 0, .int .i64 0, .int .i64 0, .int .i64 0, .int .i64 0, .int .i64 0] 86, cel b1 (cPB p) 29]) (fun _ => S) (fun _ => wf) (fun kk => ((l.length : Int) + 1 - kk).toNat) (fun a_ w_ hs_ hw_ => ⟨i2, (by (try dsimp only); exact ⟨oO, oO, (fun _ => G), (fun h_ => by have hq := r_2; rw [show ((((gt p.vehs k).brs.length : Nat) : Int) : Int) = 2 from by omega, restC_2 oO] at hq; exact hq)⟩), hs_.mono (Sub.get (.c4 G G G G (.c4 G G G G .n))), hw_.keep (.d .n)⟩) (fun kk ⟨s_0, s_1, s_2, s_3⟩ => ?_)
  try dsimp only
  refine .seq (.seq (.region (.m G G G (.m G G G (.g underlying52 G G G ?_)))))
  refine .e G G G G G (.go idQ (.condI G bD (fun h13 => ?_) (fun h13 => ?_)))
  ·
   refine .skipgo idQ (.seq (.block (.seq ?_)))
   rcases hn12 with hn1 | hn1
   ·
    have hn1i : ((((gt p.vehs k).brs.length : Nat) : Int) : Int) = 1 := by omega
    obtain rfl : i2 = kk := (s_2 hn1).symm
    have hcur := r_2; rw [show ((((gt p.vehs k).brs.length : Nat) : Int) : Int) = 1 from hn1i, restC_1 oO] at hcur
    have hsl := setR_len (l := l) (i := 0) (k := 0) (r := (([i2, i2].take ((((gt p.vehs k).brs.length : Nat) : Int)).toNat).drop 0))
    have hsl2 : (([i2, i2].take ((((gt p.vehs k).brs.length : Nat) : Int)).toNat).drop 0).length ≤ 2 := by rw [hn1]; exact Nat.le_of_ble_eq_true rfl
    refine .region (.m G G G (.m G G G (.cons (st_lit eZ (e := 3) (l := [i2, i2]) G G G G kR G G kW (fun b14 => ?_)))))
    refine .a G G G (.go idQ (.seq ?_))
    refine SC.draw mo [] [] .n (fun _ _ _ => sc0) (fun wf_15 hl_15 hx_15 hR_15 => ?_)
    refine SR.z 0 G G (ev_lda (cs := (cPB p)) G G (At.d (At.lent hR_15 2 G G)) ty29) ?_
    refine SR.m 1 G G G G ?_
    refine SR.m 2 G G G G ?_
    refine SR.m 3 G G G G ?_
    refine SR.m 4 G G G G ?_
    refine SR.z 5 G G (ev_slc G underlying22 ty3 G .n (.s G oO) oO oO) ?_
    refine SR.two (i := 6) (j := 11) kR ⟨_, G, ?_⟩ ⟨_, G, ?_⟩
    ·
     refine st_call0 G G G G hbd62 G .n (rset_ A c l (cutA (some ⟨b14, 0, none⟩) 2 0 1) ((((((gt p.vehs k).brs.length : Nat) : Int)).toNat) - 0) (2 - 0) (([i2, i2].take ((((gt p.vehs k).brs.length : Nat) : Int)).toNat).drop 0) _ _ (Fr.ext hA hx_15) (Fr.view (Fr.lent (S := S) hR_15 0 G lO) 0 ((((gt p.vehs k).brs.length : Nat) : Int)).toNat 1 G oO) (by rw [hn1]; rfl) oO (by rw [hn1]; exact atOk1 oO oO)) (fun v_q17 C_q17 q17 => ⟨tt0, ?_⟩)
     obtain ⟨u16, rfl, rfl⟩ := q17
     show SR _ _ _ _ _ _ _ _ _ ⟨_, _ :: _, _, _⟩
     refine SR.two (i := 7) (j := 11) kR ⟨_, G, ?_⟩ ⟨_, G, ?_⟩
     ·
      refine .know (row_len 0 G) (fun hv20 => ?_)
      obtain ⟨A18, c19, rfl, hv20_1, hv20_2⟩ := hv20
      unfold maxLen at hv20_2
      refine st_lend0 G G G G hbd61 G .n (.c .h .n) (fun w_ hw => rof13_ p k A18 c19 (setR l 0 0 (([i2, i2].take ((((gt p.vehs k).brs.length : Nat) : Int)).toNat).drop 0)) _ _ (Fr.lend hw 0 G lO) ((((hPB).ext hx_15)).ext hw.lendx) oO oO) (fun v_q25 C_q25 q25 => ⟨tt0, ?_⟩)
      obtain ⟨vh21, sA22, sn23, sc24, rfl, rfl⟩ := q25
      show SR _ _ _ _ _ _ _ _ _ ⟨_, _ :: _, _, _⟩
      refine SR.m 8 G G G G ?_
      refine SR.z 9 G G (ev_ext G G G) ?_
      refine SR.z 10 G G (ev_ext G G G) ?_
      refine SR.o 11 G (st_alloc G G G G zf86 (fun b26 => ⟨tt0, ?_⟩))
      refine SR.o 12 G (st_storea (l' := [.int .i64 vh21, .slice sA22 sn23 sc24, .int .i64 ((planP p k (setR l 0 0 (([i2, i2].take ((((gt p.vehs k).brs.length : Nat) : Int)).toNat).drop 0))).time), .int .i64 ((planP p k (setR l 0 0 (([i2, i2].take ((((gt p.vehs k).brs.length : Nat) : Int)).toNat).drop 0))).dist), .int .i64 ((planP p k (setR l 0 0 (([i2, i2].take ((((gt p.vehs k).brs.length : Nat) : Int)).toNat).drop 0))).wait), .int .i64 ((planP p k (setR l 0 0 (([i2, i2].take ((((gt p.vehs k).brs.length : Nat) : Int)).toNat).drop 0))).serv), .int .i64 ((planP p k (setR l 0 0 (([i2, i2].take ((((gt p.vehs k).brs.length : Nat) : Int)).toNat).drop 0))).cost)]) G G G ty86 G G G .h G G ⟨tt0, ?_⟩)
      refine SR.z 13 G G (ev_as G G) ?_
      refine SR.fin kR hl_15 hx_15 hR_15 (.c (.c .n)) ?_
      refine SQ.go idQ ?_
      refine .seq (.seq ?_)
      have hS : planP p k (setR l 0 0 (([i2, i2].take ((((gt p.vehs k).brs.length : Nat) : Int)).toNat).drop 0)) = planS p k l [i2] := by rw [hn1]; rfl
      refine .region (.m G G G (.e G G G G G (.go idQ ?_)))
      refine .condI G bNE (fun h27 => ?_) (fun h27 => ?_)
      ·
       refine .seq (.region (.d 0 ty86 G G G G (.m G G G (.cons (st_storea (l' := [.int .i64 vh21, .slice sA22 sn23 sc24, .int .i64 ((planP p k (setR l 0 0 (([i2, i2].take ((((gt p.vehs k).brs.length : Nat) : Int)).toNat).drop 0))).time), .int .i64 ((planP p k (setR l 0 0 (([i2, i2].take ((((gt p.vehs k).brs.length : Nat) : Int)).toNat).drop 0))).dist), .int .i64 ((planP p k (setR l 0 0 (([i2, i2].take ((((gt p.vehs k).brs.length : Nat) : Int)).toNat).drop 0))).wait), .int .i64 ((planP p k (setR l 0 0 (([i2, i2].take ((((gt p.vehs k).brs.length : Nat) : Int)).toNat).drop 0))).serv), .int .i64 ((planP p k (setR l 0 0 (([i2, i2].take ((((gt p.vehs k).brs.length : Nat) : Int)).toNat).drop 0))).cost)]) G G G ty86 G G G (.t2 (.t .h)) G G ?_)))))
       refine .a G G G (.go idQ (.ret idQ (retv2 results25 (.c 0 G G ty86) (.t G) .n ⟨vh21, sA22, sn23, sc24, (by rw [fit_in (by assumption) hnb, ← sets_1 hcur (by rw [← hS]; assumption), ← hS] <;> rfl), G⟩)))
      refine .skipgo idQ (.seq (.region (.m G G G (.v (ev_cmp (r := true) G G G (kbET hn1i)) G (.go idQ ?_)))))
      refine .cond_t G ?_
      refine .exit idQ ?_
      refine .region (.m G G G (.p ((i2 + 1)) oO oO G G G G G (.a G G G ?_)))
      exact SP.nil (SQ.roundb (X := Int) (x := (i2)) (i2 + 1) (by (try dsimp only); exact ⟨oO, oO, (by rw [show ((((gt p.vehs k).brs.length : Nat) : Int) : Int) = 1 from hn1i]; exact sets_2 hcur (by rw [← hS]; assumption))⟩) (by show (_ : Nat) < _; omega) (Sub.get (.c4 G G G G (.c G (.c G (.c G .n))))) (kp (.c (.t2 (.t .h)) (.c (.t2 (.t .h)) .n))))
     refine st_alloc G G G G zf86 (fun b28 => ⟨tt0, ?_⟩)
     refine .know (row_len 1 G) (fun hv31 => ?_)
     obtain ⟨A29, c30, rfl, hv31_1, hv31_2⟩ := hv31
     unfold maxLen at hv31_2
     refine SR.o 7 G (st_lend0 G G G G hbd61 G .n (.c (.t .h) .n) (fun w_ hw => rof13_ p k A29 c30 (setR l 0 0 (([i2, i2].take ((((gt p.vehs k).brs.length : Nat) : Int)).toNat).drop 0)) _ _ (Fr.lend hw 0 G lO) ((((hPB).ext hx_15)).ext hw.lendx) oO oO) (fun v_q36 C_q36 q36 => ⟨tt0, ?_⟩))
     obtain ⟨vh32, sA33, sn34, sc35, rfl, rfl⟩ := q36
     show SR _ _ _ _ _ _ _ _ _ ⟨_, _ :: _, _, _⟩
     refine SR.m 8 G G G G ?_
     refine SR.z 9 G G (ev_ext G G G) ?_
     refine SR.z 10 G G (ev_ext G G G) ?_
     refine SR.o 12 G (st_storea (l' := [.int .i64 vh32, .slice sA33 sn34 sc35, .int .i64 ((planP p k (setR l 0 0 (([i2, i2].take ((((gt p.vehs k).brs.length : Nat) : Int)).toNat).drop 0))).time), .int .i64 ((planP p k (setR l 0 0 (([i2, i2].take ((((gt p.vehs k).brs.length : Nat) : Int)).toNat).drop 0))).dist), .int .i64 ((planP p k (setR l 0 0 (([i2, i2].take ((((gt p.vehs k).brs.length : Nat) : Int)).toNat).drop 0))).wait), .int .i64 ((planP p k (setR l 0 0 (([i2, i2].take ((((gt p.vehs k).brs.length : Nat) : Int)).toNat).drop 0))).serv), .int .i64 ((planP p k (setR l 0 0 (([i2, i2].take ((((gt p.vehs k).brs.length : Nat) : Int)).toNat).drop 0))).cost)]) G G G ty86 G G G (.t .h) G G ⟨tt0, ?_⟩)
     refine SR.z 13 G G (ev_as G G) ?_
     refine SR.fin kR hl_15 hx_15 hR_15 (.c (.c .n)) ?_
     refine SQ.go idQ ?_
     refine .seq (.seq ?_)
     have hS : planP p k (setR l 0 0 (([i2, i2].take ((((gt p.vehs k).brs.length : Nat) : Int)).toNat).drop 0)) = planS p k l [i2] := by rw [hn1]; rfl
     refine .region (.m G G G (.e G G G G G (.go idQ ?_)))
     refine .condI G bNE (fun h37 => ?_) (fun h37 => ?_)
     ·
      refine .seq (.region (.d 0 ty86 G G G G (.m G G G (.cons (st_storea (l' := [.int .i64 vh32, .slice sA33 sn34 sc35, .int .i64 ((planP p k (setR l 0 0 (([i2, i2].take ((((gt p.vehs k).brs.length : Nat) : Int)).toNat).drop 0))).time), .int .i64 ((planP p k (setR l 0 0 (([i2, i2].take ((((gt p.vehs k).brs.length : Nat) : Int)).toNat).drop 0))).dist), .int .i64 ((planP p k (setR l 0 0 (([i2, i2].take ((((gt p.vehs k).brs.length : Nat) : Int)).toNat).drop 0))).wait), .int .i64 ((planP p k (setR l 0 0 (([i2, i2].take ((((gt p.vehs k).brs.length : Nat) : Int)).toNat).drop 0))).serv), .int .i64 ((planP p k (setR l 0 0 (([i2, i2].take ((((gt p.vehs k).brs.length : Nat) : Int)).toNat).drop 0))).cost)]) G G G ty86 G G G (.t2 (.t .h)) G G ?_)))))
      refine .a G G G (.go idQ (.ret idQ (retv2 results25 (.c 0 G G ty86) (.t G) .n ⟨vh32, sA33, sn34, sc35, (by rw [fit_in (by assumption) hnb, ← sets_1 hcur (by rw [← hS]; assumption), ← hS] <;> rfl), G⟩)))
     refine .skipgo idQ (.seq (.region (.m G G G (.v (ev_cmp (r := true) G G G (kbET hn1i)) G (.go idQ ?_)))))
     refine .cond_t G ?_
     refine .exit idQ ?_
     refine .region (.m G G G (.p ((i2 + 1)) oO oO G G G G G (.a G G G ?_)))
     exact SP.nil (SQ.roundb (X := Int) (x := (i2)) (i2 + 1) (by (try dsimp only); exact ⟨oO, oO, (by rw [show ((((gt p.vehs k).brs.length : Nat) : Int) : Int) = 1 from hn1i]; exact sets_2 hcur (by rw [← hS]; assumption))⟩) (by show (_ : Nat) < _; omega) (Sub.get (.c4 G G G G (.c G (.c G (.c G .n))))) (kp (.c (.t2 (.t .h)) (.c (.t2 (.t .h)) .n))))
    refine st_alloc G G G G zf86 (fun b38 => ⟨tt0, ?_⟩)
    refine SR.o 6 G (st_call0 G G G G hbd62 G .n (rset_ A c l (cutA (some ⟨b14, 0, none⟩) 2 0 1) ((((((gt p.vehs k).brs.length : Nat) : Int)).toNat) - 0) (2 - 0) (([i2, i2].take ((((gt p.vehs k).brs.length : Nat) : Int)).toNat).drop 0) _ _ (Fr.ext hA hx_15) (Fr.view (Fr.lent (S := S) hR_15 0 G lO) 0 ((((gt p.vehs k).brs.length : Nat) : Int)).toNat 1 G oO) (by rw [hn1]; rfl) oO (by rw [hn1]; exact atOk1 oO oO)) (fun v_q40 C_q40 q40 => ⟨tt0, ?_⟩))
    obtain ⟨u39, rfl, rfl⟩ := q40
    show SR _ _ _ _ _ _ _ _ _ ⟨_, _ :: _, _, _⟩
    refine .know (row_len 0 G) (fun hv43 => ?_)
    obtain ⟨A41, c42, rfl, hv43_1, hv43_2⟩ := hv43
    unfold maxLen at hv43_2
    refine SR.o 7 G (st_lend0 G G G G hbd61 G .n (.c .h .n) (fun w_ hw => rof13_ p k A41 c42 (setR l 0 0 (([i2, i2].take ((((gt p.vehs k).brs.length : Nat) : Int)).toNat).drop 0)) _ _ (Fr.lend hw 0 G lO) ((((hPB).ext hx_15)).ext hw.lendx) oO oO) (fun v_q48 C_q48 q48 => ⟨tt0, ?_⟩))
    obtain ⟨vh44, sA45, sn46, sc47, rfl, rfl⟩ := q48
    show SR _ _ _ _ _ _ _ _ _ ⟨_, _ :: _, _, _⟩
    refine SR.m 8 G G G G ?_
    refine SR.z 9 G G (ev_ext G G G) ?_
    refine SR.z 10 G G (ev_ext G G G) ?_
    refine SR.o 12 G (st_storea (l' := [.int .i64 vh44, .slice sA45 sn46 sc47, .int .i64 ((planP p k (setR l 0 0 (([i2, i2].take ((((gt p.vehs k).brs.length : Nat) : Int)).toNat).drop 0))).time), .int .i64 ((planP p k (setR l 0 0 (([i2, i2].take ((((gt p.vehs k).brs.length : Nat) : Int)).toNat).drop 0))).dist), .int .i64 ((planP p k (setR l 0 0 (([i2, i2].take ((((gt p.vehs k).brs.length : Nat) : Int)).toNat).drop 0))).wait), .int .i64 ((planP p k (setR l 0 0 (([i2, i2].take ((((gt p.vehs k).brs.length : Nat) : Int)).toNat).drop 0))).serv), .int .i64 ((planP p k (setR l 0 0 (([i2, i2].take ((((gt p.vehs k).brs.length : Nat) : Int)).toNat).drop 0))).cost)]) G G G ty86 G G G (.t .h) G G ⟨tt0, ?_⟩)
    refine SR.z 13 G G (ev_as G G) ?_
    refine SR.fin kR hl_15 hx_15 hR_15 (.c (.c .n)) ?_
    refine SQ.go idQ ?_
    refine .seq (.seq ?_)
    have hS : planP p k (setR l 0 0 (([i2, i2].take ((((gt p.vehs k).brs.length : Nat) : Int)).toNat).drop 0)) = planS p k l [i2] := by rw [hn1]; rfl
    refine .region (.m G G G (.e G G G G G (.go idQ ?_)))
    refine .condI G bNE (fun h49 => ?_) (fun h49 => ?_)
    ·
     refine .seq (.region (.d 0 ty86 G G G G (.m G G G (.cons (st_storea (l' := [.int .i64 vh44, .slice sA45 sn46 sc47, .int .i64 ((planP p k (setR l 0 0 (([i2, i2].take ((((gt p.vehs k).brs.length : Nat) : Int)).toNat).drop 0))).time), .int .i64 ((planP p k (setR l 0 0 (([i2, i2].take ((((gt p.vehs k).brs.length : Nat) : Int)).toNat).drop 0))).dist), .int .i64 ((planP p k (setR l 0 0 (([i2, i2].take ((((gt p.vehs k).brs.length : Nat) : Int)).toNat).drop 0))).wait), .int .i64 ((planP p k (setR l 0 0 (([i2, i2].take ((((gt p.vehs k).brs.length : Nat) : Int)).toNat).drop 0))).serv), .int .i64 ((planP p k (setR l 0 0 (([i2, i2].take ((((gt p.vehs k).brs.length : Nat) : Int)).toNat).drop 0))).cost)]) G G G ty86 G G G (.t2 (.t .h)) G G ?_)))))
     refine .a G G G (.go idQ (.ret idQ (retv2 results25 (.c 0 G G ty86) (.t G) .n ⟨vh44, sA45, sn46, sc47, (by rw [fit_in (by assumption) hnb, ← sets_1 hcur (by rw [← hS]; assumption), ← hS] <;> rfl), G⟩)))
    refine .skipgo idQ (.seq (.region (.m G G G (.v (ev_cmp (r := true) G G G (kbET hn1i)) G (.go idQ ?_)))))
    refine .cond_t G ?_
    refine .exit idQ ?_
    refine .region (.m G G G (.p ((i2 + 1)) oO oO G G G G G (.a G G G ?_)))
    exact SP.nil (SQ.roundb (X := Int) (x := (i2)) (i2 + 1) (by (try dsimp only); exact ⟨oO, oO, (by rw [show ((((gt p.vehs k).brs.length : Nat) : Int) : Int) = 1 from hn1i]; exact sets_2 hcur (by rw [← hS]; assumption))⟩) (by show (_ : Nat) < _; omega) (Sub.get (.c4 G G G G (.c G (.c G (.c G .n))))) (kp (.c (.t2 (.t .h)) (.c (.t2 (.t .h)) .n))))
   have hn1i : ¬ ((((gt p.vehs k).brs.length : Nat) : Int) : Int) = 1 := by omega
   have hcur := s_3 hn1; rw [up_cons oO, List.map_cons, List.cons_append] at hcur
   have hsl := setR_len (l := l) (i := 0) (k := 0) (r := (([i2, kk].take ((((gt p.vehs k).brs.length : Nat) : Int)).toNat).drop 0))
   have hsl2 : (([i2, kk].take ((((gt p.vehs k).brs.length : Nat) : Int)).toNat).drop 0).length ≤ 2 := by rw [hn1]; exact Nat.le_of_ble_eq_true rfl
   refine .region (.m G G G (.m G G G (.cons (st_lit eZ (e := 3) (l := [i2, kk]) G G G G kR G G kW (fun b50 => ?_)))))
   refine .a G G G (.go idQ (.seq ?_))
   refine SC.draw mo [] [] .n (fun _ _ _ => sc0) (fun wf_51 hl_51 hx_51 hR_51 => ?_)
   refine SR.z 0 G G (ev_lda (cs := (cPB p)) G G (At.d (At.lent hR_51 2 G G)) ty29) ?_
   refine SR.m 1 G G G G ?_
   refine SR.m 2 G G G G ?_
   refine SR.m 3 G G G G ?_
   refine SR.m 4 G G G G ?_
   refine SR.z 5 G G (ev_slc G underlying22 ty3 G .n (.s G oO) oO oO) ?_
   refine SR.two (i := 6) (j := 11) kR ⟨_, G, ?_⟩ ⟨_, G, ?_⟩
   ·
    refine st_call0 G G G G hbd62 G .n (rset_ A c l (cutA (some ⟨b50, 0, none⟩) 2 0 1) ((((((gt p.vehs k).brs.length : Nat) : Int)).toNat) - 0) (2 - 0) (([i2, kk].take ((((gt p.vehs k).brs.length : Nat) : Int)).toNat).drop 0) _ _ (Fr.ext hA hx_51) (Fr.view (Fr.lent (S := S) hR_51 0 G lO) 0 ((((gt p.vehs k).brs.length : Nat) : Int)).toNat 1 G oO) (by rw [hn1]; rfl) oO (by rw [hn1]; exact atOk2 oO oO oO)) (fun v_q53 C_q53 q53 => ⟨tt0, ?_⟩)
    obtain ⟨u52, rfl, rfl⟩ := q53
    show SR _ _ _ _ _ _ _ _ _ ⟨_, _ :: _, _, _⟩
    refine SR.two (i := 7) (j := 11) kR ⟨_, G, ?_⟩ ⟨_, G, ?_⟩
    ·
     refine .know (row_len 0 G) (fun hv56 => ?_)
     obtain ⟨A54, c55, rfl, hv56_1, hv56_2⟩ := hv56
     unfold maxLen at hv56_2
     refine st_lend0 G G G G hbd61 G .n (.c .h .n) (fun w_ hw => rof13_ p k A54 c55 (setR l 0 0 (([i2, kk].take ((((gt p.vehs k).brs.length : Nat) : Int)).toNat).drop 0)) _ _ (Fr.lend hw 0 G lO) ((((hPB).ext hx_51)).ext hw.lendx) oO oO) (fun v_q61 C_q61 q61 => ⟨tt0, ?_⟩)
     obtain ⟨vh57, sA58, sn59, sc60, rfl, rfl⟩ := q61
     show SR _ _ _ _ _ _ _ _ _ ⟨_, _ :: _, _, _⟩
     refine SR.m 8 G G G G ?_
     refine SR.z 9 G G (ev_ext G G G) ?_
     refine SR.z 10 G G (ev_ext G G G) ?_
     refine SR.o 11 G (st_alloc G G G G zf86 (fun b62 => ⟨tt0, ?_⟩))
     refine SR.o 12 G (st_storea (l' := [.int .i64 vh57, .slice sA58 sn59 sc60, .int .i64 ((planP p k (setR l 0 0 (([i2, kk].take ((((gt p.vehs k).brs.length : Nat) : Int)).toNat).drop 0))).time), .int .i64 ((planP p k (setR l 0 0 (([i2, kk].take ((((gt p.vehs k).brs.length : Nat) : Int)).toNat).drop 0))).dist), .int .i64 ((planP p k (setR l 0 0 (([i2, kk].take ((((gt p.vehs k).brs.length : Nat) : Int)).toNat).drop 0))).wait), .int .i64 ((planP p k (setR l 0 0 (([i2, kk].take ((((gt p.vehs k).brs.length : Nat) : Int)).toNat).drop 0))).serv), .int .i64 ((planP p k (setR l 0 0 (([i2, kk].take ((((gt p.vehs k).brs.length : Nat) : Int)).toNat).drop 0))).cost)]) G G G ty86 G G G .h G G ⟨tt0, ?_⟩)
     refine SR.z 13 G G (ev_as G G) ?_
     refine SR.fin kR hl_51 hx_51 hR_51 (.c (.c .n)) ?_
     refine SQ.go idQ ?_
     refine .seq (.seq ?_)
     have hS : planP p k (setR l 0 0 (([i2, kk].take ((((gt p.vehs k).brs.length : Nat) : Int)).toNat).drop 0)) = planS p k l [i2, kk] := by rw [hn1]; rfl
     refine .region (.m G G G (.e G G G G G (.go idQ ?_)))
     refine .condI G bNE (fun h63 => ?_) (fun h63 => ?_)
     ·
      refine .seq (.region (.d 0 ty86 G G G G (.m G G G (.cons (st_storea (l' := [.int .i64 vh57, .slice sA58 sn59 sc60, .int .i64 ((planP p k (setR l 0 0 (([i2, kk].take ((((gt p.vehs k).brs.length : Nat) : Int)).toNat).drop 0))).time), .int .i64 ((planP p k (setR l 0 0 (([i2, kk].take ((((gt p.vehs k).brs.length : Nat) : Int)).toNat).drop 0))).dist), .int .i64 ((planP p k (setR l 0 0 (([i2, kk].take ((((gt p.vehs k).brs.length : Nat) : Int)).toNat).drop 0))).wait), .int .i64 ((planP p k (setR l 0 0 (([i2, kk].take ((((gt p.vehs k).brs.length : Nat) : Int)).toNat).drop 0))).serv), .int .i64 ((planP p k (setR l 0 0 (([i2, kk].take ((((gt p.vehs k).brs.length : Nat) : Int)).toNat).drop 0))).cost)]) G G G ty86 G G G (.t2 (.t .h)) G G ?_)))))
      refine .a G G G (.go idQ (.ret idQ (retv2 results25 (.c 0 G G ty86) (.t G) .n ⟨vh57, sA58, sn59, sc60, (by rw [fit_in (by assumption) hnb, ← sets_1 hcur (by rw [← hS]; assumption), ← hS] <;> rfl), G⟩)))
     refine .skipgo idQ (.seq (.region (.m G G G (.v (ev_cmp (r := false) G G G (kbEF hn1i)) G (.go idQ ?_)))))
     refine .cond_f G ?_
     refine .skipgo idQ (.region (.m G G G (.p ((kk + 1)) oO oO G G G G G (.a G G G ?_))))
     exact SP.nil (SQ.roundb (X := Int) (x := (kk)) (kk + 1) (by (try dsimp only); exact ⟨oO, oO, (fun h_ => by omega), (fun _ => sets_2 hcur (by rw [← hS]; assumption))⟩) (by show (_ : Nat) < _; omega) (Sub.get (.c4 G G G G (.c4 G G G G .n))) (kp (.c (.t2 (.t .h)) (.c (.t2 (.t .h)) .n))))
    refine st_alloc G G G G zf86 (fun b64 => ⟨tt0, ?_⟩)
    refine .know (row_len 1 G) (fun hv67 => ?_)
    obtain ⟨A65, c66, rfl, hv67_1, hv67_2⟩ := hv67
    unfold maxLen at hv67_2
    refine SR.o 7 G (st_lend0 G G G G hbd61 G .n (.c (.t .h) .n) (fun w_ hw => rof13_ p k A65 c66 (setR l 0 0 (([i2, kk].take ((((gt p.vehs k).brs.length : Nat) : Int)).toNat).drop 0)) _ _ (Fr.lend hw 0 G lO) ((((hPB).ext hx_51)).ext hw.lendx) oO oO) (fun v_q72 C_q72 q72 => ⟨tt0, ?_⟩))
    obtain ⟨vh68, sA69, sn70, sc71, rfl, rfl⟩ := q72
    show SR _ _ _ _ _ _ _ _ _ ⟨_, _ :: _, _, _⟩
    refine SR.m 8 G G G G ?_
    refine SR.z 9 G G (ev_ext G G G) ?_
    refine SR.z 10 G G (ev_ext G G G) ?_
    refine SR.o 12 G (st_storea (l' := [.int .i64 vh68, .slice sA69 sn70 sc71, .int .i64 ((planP p k (setR l 0 0 (([i2, kk].take ((((gt p.vehs k).brs.length : Nat) : Int)).toNat).drop 0))).time), .int .i64 ((planP p k (setR l 0 0 (([i2, kk].take ((((gt p.vehs k).brs.length : Nat) : Int)).toNat).drop 0))).dist), .int .i64 ((planP p k (setR l 0 0 (([i2, kk].take ((((gt p.vehs k).brs.length : Nat) : Int)).toNat).drop 0))).wait), .int .i64 ((planP p k (setR l 0 0 (([i2, kk].take ((((gt p.vehs k).brs.length : Nat) : Int)).toNat).drop 0))).serv), .int .i64 ((planP p k (setR l 0 0 (([i2, kk].take ((((gt p.vehs k).brs.length : Nat) : Int)).toNat).drop 0))).cost)]) G G G ty86 G G G (.t .h) G G ⟨tt0, ?_⟩)
    refine SR.z 13 G G (ev_as G G) ?_
    refine SR.fin kR hl_51 hx_51 hR_51 (.c (.c .n)) ?_
    refine SQ.go idQ ?_
    refine .seq (.seq ?_)
    have hS : planP p k (setR l 0 0 (([i2, kk].take ((((gt p.vehs k).brs.length : Nat) : Int)).toNat).drop 0)) = planS p k l [i2, kk] := by rw [hn1]; rfl
    refine .region (.m G G G (.e G G G G G (.go idQ ?_)))
    refine .condI G bNE (fun h73 => ?_) (fun h73 => ?_)
    ·
     refine .seq (.region (.d 0 ty86 G G G G (.m G G G (.cons (st_storea (l' := [.int .i64 vh68, .slice sA69 sn70 sc71, .int .i64 ((planP p k (setR l 0 0 (([i2, kk].take ((((gt p.vehs k).brs.length : Nat) : Int)).toNat).drop 0))).time), .int .i64 ((planP p k (setR l 0 0 (([i2, kk].take ((((gt p.vehs k).brs.length : Nat) : Int)).toNat).drop 0))).dist), .int .i64 ((planP p k (setR l 0 0 (([i2, kk].take ((((gt p.vehs k).brs.length : Nat) : Int)).toNat).drop 0))).wait), .int .i64 ((planP p k (setR l 0 0 (([i2, kk].take ((((gt p.vehs k).brs.length : Nat) : Int)).toNat).drop 0))).serv), .int .i64 ((planP p k (setR l 0 0 (([i2, kk].take ((((gt p.vehs k).brs.length : Nat) : Int)).toNat).drop 0))).cost)]) G G G ty86 G G G (.t2 (.t .h)) G G ?_)))))
     refine .a G G G (.go idQ (.ret idQ (retv2 results25 (.c 0 G G ty86) (.t G) .n ⟨vh68, sA69, sn70, sc71, (by rw [fit_in (by assumption) hnb, ← sets_1 hcur (by rw [← hS]; assumption), ← hS] <;> rfl), G⟩)))
    refine .skipgo idQ (.seq (.region (.m G G G (.v (ev_cmp (r := false) G G G (kbEF hn1i)) G (.go idQ ?_)))))
    refine .cond_f G ?_
    refine .skipgo idQ (.region (.m G G G (.p ((kk + 1)) oO oO G G G G G (.a G G G ?_))))
    exact SP.nil (SQ.roundb (X := Int) (x := (kk)) (kk + 1) (by (try dsimp only); exact ⟨oO, oO, (fun h_ => by omega), (fun _ => sets_2 hcur (by rw [← hS]; assumption))⟩) (by show (_ : Nat) < _; omega) (Sub.get (.c4 G G G G (.c4 G G G G .n))) (kp (.c (.t2 (.t .h)) (.c (.t2 (.t .h)) .n))))
   refine st_alloc G G G G zf86 (fun b74 => ⟨tt0, ?_⟩)
   refine SR.o 6 G (st_call0 G G G G hbd62 G .n (rset_ A c l (cutA (some ⟨b50, 0, none⟩) 2 0 1) ((((((gt p.vehs k).brs.length : Nat) : Int)).toNat) - 0) (2 - 0) (([i2, kk].take ((((gt p.vehs k).brs.length : Nat) : Int)).toNat).drop 0) _ _ (Fr.ext hA hx_51) (Fr.view (Fr.lent (S := S) hR_51 0 G lO) 0 ((((gt p.vehs k).brs.length : Nat) : Int)).toNat 1 G oO) (by rw [hn1]; rfl) oO (by rw [hn1]; exact atOk2 oO oO oO)) (fun v_q76 C_q76 q76 => ⟨tt0, ?_⟩))
   obtain ⟨u75, rfl, rfl⟩ := q76
   show SR _ _ _ _ _ _ _ _ _ ⟨_, _ :: _, _, _⟩
   refine .know (row_len 0 G) (fun hv79 => ?_)
   obtain ⟨A77, c78, rfl, hv79_1, hv79_2⟩ := hv79
   unfold maxLen at hv79_2
   refine SR.o 7 G (st_lend0 G G G G hbd61 G .n (.c .h .n) (fun w_ hw => rof13_ p k A77 c78 (setR l 0 0 (([i2, kk].take ((((gt p.vehs k).brs.length : Nat) : Int)).toNat).drop 0)) _ _ (Fr.lend hw 0 G lO) ((((hPB).ext hx_51)).ext hw.lendx) oO oO) (fun v_q84 C_q84 q84 => ⟨tt0, ?_⟩))
   obtain ⟨vh80, sA81, sn82, sc83, rfl, rfl⟩ := q84
   show SR _ _ _ _ _ _ _ _ _ ⟨_, _ :: _, _, _⟩
   refine SR.m 8 G G G G ?_
   refine SR.z 9 G G (ev_ext G G G) ?_
   refine SR.z 10 G G (ev_ext G G G) ?_
   refine SR.o 12 G (st_storea (l' := [.int .i64 vh80, .slice sA81 sn82 sc83, .int .i64 ((planP p k (setR l 0 0 (([i2, kk].take ((((gt p.vehs k).brs.length : Nat) : Int)).toNat).drop 0))).time), .int .i64 ((planP p k (setR l 0 0 (([i2, kk].take ((((gt p.vehs k).brs.length : Nat) : Int)).toNat).drop 0))).dist), .int .i64 ((planP p k (setR l 0 0 (([i2, kk].take ((((gt p.vehs k).brs.length : Nat) : Int)).toNat).drop 0))).wait), .int .i64 ((planP p k (setR l 0 0 (([i2, kk].take ((((gt p.vehs k).brs.length : Nat) : Int)).toNat).drop 0))).serv), .int .i64 ((planP p k (setR l 0 0 (([i2, kk].take ((((gt p.vehs k).brs.length : Nat) : Int)).toNat).drop 0))).cost)]) G G G ty86 G G G (.t .h) G G ⟨tt0, ?_⟩)
   refine SR.z 13 G G (ev_as G G) ?_
   refine SR.fin kR hl_51 hx_51 hR_51 (.c (.c .n)) ?_
   refine SQ.go idQ ?_
   refine .seq (.seq ?_)
   have hS : planP p k (setR l 0 0 (([i2, kk].take ((((gt p.vehs k).brs.length : Nat) : Int)).toNat).drop 0)) = planS p k l [i2, kk] := by rw [hn1]; rfl
   refine .region (.m G G G (.e G G G G G (.go idQ ?_)))
   refine .condI G bNE (fun h85 => ?_) (fun h85 => ?_)
   ·
    refine .seq (.region (.d 0 ty86 G G G G (.m G G G (.cons (st_storea (l' := [.int .i64 vh80, .slice sA81 sn82 sc83, .int .i64 ((planP p k (setR l 0 0 (([i2, kk].take ((((gt p.vehs k).brs.length : Nat) : Int)).toNat).drop 0))).time), .int .i64 ((planP p k (setR l 0 0 (([i2, kk].take ((((gt p.vehs k).brs.length : Nat) : Int)).toNat).drop 0))).dist), .int .i64 ((planP p k (setR l 0 0 (([i2, kk].take ((((gt p.vehs k).brs.length : Nat) : Int)).toNat).drop 0))).wait), .int .i64 ((planP p k (setR l 0 0 (([i2, kk].take ((((gt p.vehs k).brs.length : Nat) : Int)).toNat).drop 0))).serv), .int .i64 ((planP p k (setR l 0 0 (([i2, kk].take ((((gt p.vehs k).brs.length : Nat) : Int)).toNat).drop 0))).cost)]) G G G ty86 G G G (.t2 (.t .h)) G G ?_)))))
    refine .a G G G (.go idQ (.ret idQ (retv2 results25 (.c 0 G G ty86) (.t G) .n ⟨vh80, sA81, sn82, sc83, (by rw [fit_in (by assumption) hnb, ← sets_1 hcur (by rw [← hS]; assumption), ← hS] <;> rfl), G⟩)))
   refine .skipgo idQ (.seq (.region (.m G G G (.v (ev_cmp (r := false) G G G (kbEF hn1i)) G (.go idQ ?_)))))
   refine .cond_f G ?_
   refine .skipgo idQ (.region (.m G G G (.p ((kk + 1)) oO oO G G G G G (.a G G G ?_))))
   exact SP.nil (SQ.roundb (X := Int) (x := (kk)) (kk + 1) (by (try dsimp only); exact ⟨oO, oO, (fun h_ => by omega), (fun _ => sets_2 hcur (by rw [← hS]; assumption))⟩) (by show (_ : Nat) < _; omega) (Sub.get (.c4 G G G G (.c4 G G G G .n))) (kp (.c (.t2 (.t .h)) (.c (.t2 (.t .h)) .n))))
  refine .exit idQ ?_
  refine .region (.m G G G (.p ((i2 + 1)) oO oO G G G G G (.a G G G ?_)))
  exact SP.nil (SQ.roundb (X := Int) (x := (i2)) (i2 + 1) (by (try dsimp only); exact ⟨oO, oO, (by have hn2 : (gt p.vehs k).brs.length = 2 := (by rcases hn12 with hn1 | hn1; exact absurd (s_2 hn1) oO; exact hn1); have hq := s_3 hn2; rw [up_nil oO] at hq; rw [show ((((gt p.vehs k).brs.length : Nat) : Int) : Int) = 2 from by omega]; exact hq)⟩) (by show (_ : Nat) < _; omega) (Sub.get (.c4 rfl rfl rfl rfl (.c rfl (.c rfl (.c rfl .n))))) (kp (.d .n)))
 refine .exit idQ ?_
 refine .seq (.region (.v (ev_any (v := .agg #[.int .i64 0, .slice none 0 0, .int .i64 0, .int .i64 0, .int .i64 0, .int .i64 0, .int .i64 0]) G kR (fun _ => by kernel_rfl)) G (.cons (st_storea (l' := [.int .i64 0, .slice none 0 0, .int .i64 0, .int .i64 0, .int .i64 0, .int .i64 0, .int .i64 0]) G G G ty86 G G G .h G G (.a G G G ?_)))))
 refine .go idQ (.ret idQ (retv2 results25 (.c 0 G G ty86) (.t G) .n ⟨0, none, 0, 0, (by rw [fit_in (by assumption) hnb, ← r_2, restC_end oO]; rfl), G⟩))
end Go.Proofs.YtimhdimhdimbjaaGreat.Sx
set_option maxRecDepth 20000
set_option maxHeartbeats 1000000
namespace Go.Proofs.YtimhdimhdimbjaaGreat.Sx.FM
open Go Go.SX Go.Proofs Go.Proofs.Tryz FA FB FC FD FE FF FG FH FJ FK FL
theorem ai4 : (prog.info? 4).map (fun i => (i.zero, i.size, i.bytes)) = some (some (.bool false), 1, 1) := by kernel_rfl
end Go.Proofs.YtimhdimhdimbjaaGreat.Sx.FM
namespace Go.Proofs.YtimhdimhdimbjaaGreat.Sx
open Go Go.SX Go.Proofs Go.Proofs.Tryz FA FB FC FD FE FF FG FH FJ FK FL FM
theorem rtasks_ (p : PB) (S : Nat → Prop) (wf : World) (hPB : PBF S wf p) (hL : LawP p) :
  TR0 prog 29 [.agg (cPB p).toArray] [] S wf (fun v_ C_ => ∃ (u : Value), v_ = u ∧ C_ = [rw_ eTK 61 (u) (taskL p)]) := by
 have hlj := hPB.2.2.2.1.1.len
 have hls := hPB.2.2.2.2.1.len
 have hnj := hL.nj
 refine TR.mk func29 G ntmps29 G G (fun w_ => ?_)
 refine .seq (.region (.cons (st_boxa G G G G G (fun b1 => (.a G G G (.go idQ (.seq (.region ?_))))))))
 refine .a G G G (.go idQ (.seq (.seq (.region (.a G G G (.go idQ (.block ?_)))))))
 refine SC.nilrow eTK 61 ?_
 refine .loop (X := Int × (List TK) × Value) (fun ⟨i, X, u_X⟩ => 0 ≤ i ∧ i ≤ (p.jobs.length : Int) ∧ X = (List.range i.toNat).map (fun i_ : Nat => (⟨false, (i_ : Int)⟩ : TK)) ∧ (X.length : Int) = i) (fun ⟨i, X, u_X⟩ => [(1, .pointer (some ⟨b1, 0, none⟩)), (2, .slice none 0 0), (4, .int .i64 i), (3, u_X)]) (fun ⟨i, X, u_X⟩ => [rw_ eTK 61 (u_X) X, cel b1 (cPB p) 29]) (fun _ => S) (fun _ => wf) (fun ⟨i, X, u_X⟩ => ((p.jobs.length : Int) - i).toNat) (fun a_ w_ hs_ hw_ => ⟨⟨0, ([] : List TK), .slice none 0 0⟩, (by (try dsimp only); exact ⟨oO, oO, G, G⟩), hs_.mono (Sub.get (.c4 G G G G .n)), hw_.keep (.d .n)⟩) (fun ⟨i, X, u_X⟩ ⟨q_0, q_1, q_2, q_3⟩ => ?_)
 try dsimp only
 refine .seq (.seq (.region (.m G G G (.f fo29_4 6 G G G G (.l ty26 1 G G G G G ?_)))))
 refine .g underlying26 G G G (.e G G G G G (.go idQ (.condI G bD (fun h2 => ?_) (fun h2 => ?_))))
 ·
  refine .skipgo idQ (.seq (.block (.region (.m G G G (.m G G G (.v (ev_any (v := .agg #[.bool false, .int .i64 i]) G kR (fun _ => by kernel_rfl)) G ?_))))))
  refine .cons (st_lit eTK (e := 61) (l := [(TK.mk false i)]) G G G G kR G G kW (fun b3 => ?_))
  refine .cons (st_app (E := eTK) (m := [(TK.mk false i)]) G G G G underlying58 ai61 G G G (.t .h) rO (row_src 0 G) lO G (fun v4 => ?_))
  refine .a G G G (.go idQ (.region (.m G G G (.p ((i + 1)) oO oO G G G G G ?_))))
  refine .a G G G ?_
  exact SP.nil (SQ.roundb (X := Int × (List TK) × Value) (x := (i, X, u_X)) ⟨(i + 1), (X ++ [(TK.mk false i)]), v4⟩ (by (try dsimp only); exact ⟨oO, oO, (by have hn := range_next oO q_2; rw [← hn]; rw [show ((i.toNat : Nat) : Int) = i from by omega]), (by simp only [List.length_append, List.length_singleton]; omega)⟩) dO (Sub.get (.c4 G G G G .n)) (kp (.c .h (.c (.t .h) .n))))
 refine .exit idQ ?_
 refine .seq (.seq (.region (.a G G G (.go idQ (.block (.loop (X := Int × (List TK) × Value) (fun ⟨j, Y, u_Y⟩ => 0 ≤ j ∧ j ≤ (p.ships.length : Int) ∧ Y = X ++ (List.range j.toNat).map (fun i_ : Nat => (⟨true, (i_ : Int)⟩ : TK)) ∧ (Y.length : Int) = X.length + j) (fun ⟨j, Y, u_Y⟩ => [(1, .pointer (some ⟨b1, 0, none⟩)), (2, .slice none 0 0), (4, .int .i64 i), (5, .int .i64 j), (3, u_Y)]) (fun ⟨j, Y, u_Y⟩ => [rw_ eTK 61 (u_Y) Y, cel b1 (cPB p) 29]) (fun _ => S) (fun _ => wf) (fun ⟨j, Y, u_Y⟩ => ((p.ships.length : Int) - j).toNat) (fun a_ w_ hs_ hw_ => ⟨⟨0, X, u_X⟩, (by (try dsimp only); exact ⟨oO, oO, (by simp), oO⟩), hs_.mono (Sub.get (.c4 G G G G (.c G .n))), hw_.keep (.d .n)⟩) (fun ⟨j, Y, u_Y⟩ ⟨r_0, r_1, r_2, r_3⟩ => ?_)))))))
 try dsimp only
 refine .seq (.seq (.region (.m G G G (.f fo29_5 7 G G G G (.l ty27 1 G G G G G ?_)))))
 refine .g underlying27 G G G (.e G G G G G (.go idQ (.condI G bD (fun h5 => ?_) (fun h5 => ?_))))
 ·
  refine .skipgo idQ (.seq (.block (.region (.m G G G (.m G G G (.v (ev_any (v := .agg #[.bool true, .int .i64 j]) G kR (fun _ => by kernel_rfl)) G ?_))))))
  refine .cons (st_lit eTK (e := 61) (l := [(TK.mk true j)]) G G G G kR G G kW (fun b6 => ?_))
  refine .cons (st_app (E := eTK) (m := [(TK.mk true j)]) G G G G underlying58 ai61 G G G (.t .h) rO (row_src 0 G) lO G (fun v7 => ?_))
  refine .a G G G (.go idQ (.region (.m G G G (.p ((j + 1)) oO oO G G G G G ?_))))
  refine .a G G G ?_
  exact SP.nil (SQ.roundb (X := Int × (List TK) × Value) (x := (j, Y, u_Y)) ⟨(j + 1), (Y ++ [(TK.mk true j)]), v7⟩ (by (try dsimp only); exact ⟨oO, oO, (by rw [r_2, List.append_assoc]; congr 1; have hn := range_next (f := fun i_ : Nat => (⟨true, (i_ : Int)⟩ : TK)) (i := j) oO G; rw [← hn]; rw [show ((j.toNat : Nat) : Int) = j from by omega]), (by simp only [List.length_append, List.length_singleton]; omega)⟩) dO (Sub.get (.c4 G G G G (.c G .n))) (kp (.c .h (.c (.t .h) .n))))
 refine .exit idQ ?_
 refine .seq ?_
 have hY : Y = (allT p.jobs.length p.ships.length) := by rw [r_2, q_2, show i.toNat = p.jobs.length from by omega, show j.toNat = p.ships.length from by omega]; rfl
 refine .region (.a G G G (.go idQ (.seq (.region (.m G G G ?_)))))
 refine .know (row_len 0 G) (fun hv10 => ?_)
 obtain ⟨A8, c9, rfl, hv10_1, hv10_2⟩ := hv10
 unfold maxLen at hv10_2
 refine .g underlying58 G G G (.cons (st_mkbools (n := Y.length) G G G G underlying98 ai4 G G G oO G (fun b11 => (.a G G G (.go idQ (.seq (.block ?_)))))))
 refine SC.nilrow eTK 61 ?_
 refine .loop (X := (List TK) × Value × (List Bool)) (fun ⟨X2, u_X2, U⟩ => SelI (fun t_ : TK => -(prioF p t_)) Y X2 U ∧ X2.length ≤ Y.length) (fun ⟨X2, u_X2, U⟩ => [(1, .pointer (some ⟨b1, 0, none⟩)), (2, .slice none 0 0), (4, .int .i64 i), (5, .int .i64 j), (3, .slice A8 Y.length c9), (7, .slice (some ⟨b11, 0, none⟩) Y.length Y.length), (6, u_X2)]) (fun ⟨X2, u_X2, U⟩ => [rw_ eTK 61 (u_X2) X2, rw_ eB 4 (.slice (some ⟨b11, 0, none⟩) Y.length Y.length) U, rw_ eTK 61 (.slice A8 Y.length c9) Y, cel b1 (cPB p) 29]) (fun _ => S) (fun _ => wf) (fun ⟨X2, u_X2, U⟩ => (Y.length - X2.length)) (fun a_ w_ hs_ hw_ => ⟨⟨([] : List TK), .slice none 0 0, (List.replicate Y.length false)⟩, (by (try dsimp only); exact ⟨(sel_init Y), (by simp)⟩), hs_.mono (Sub.get (.c4 G G G G (.c G (.c G (.c G .n))))), hw_.keep (.d (.d .n))⟩) (fun ⟨X2, u_X2, U⟩ ⟨s_0, s_1⟩ => ?_)
 try dsimp only
 refine .seq (.seq (.region (.m G G G (.know (row_len 0 G) (fun hv14 => ?_)))))
 obtain ⟨A12, c13, rfl, hv14_1, hv14_2⟩ := hv14
 unfold maxLen at hv14_2
 refine .g underlying58 G G G (.m G G G (.g underlying58 G G G (.e G G G G G ?_)))
 refine .go idQ (.condI G bD (fun h15 => ?_) (fun h15 => ?_))
 ·
  refine .skipgo idQ (.block (.seq (.region (.a G G G (.go idQ (.seq (.seq (.region (.a G G G ?_)))))))))
  refine .go idQ (.block (.loop (X := Int × Int) (fun ⟨i3, bb⟩ => 0 ≤ i3 ∧ i3 ≤ (Y.length : Int) ∧ BestI (fun t_ : TK => -(prioF p t_)) Y U i3 bb ∧ (-1 ≤ bb ∧ bb < i3)) (fun ⟨i3, bb⟩ => [(1, .pointer (some ⟨b1, 0, none⟩)), (2, .slice none 0 0), (4, .int .i64 i), (5, .int .i64 j), (3, .slice A8 Y.length c9), (7, .slice (some ⟨b11, 0, none⟩) Y.length Y.length), (6, .slice A12 X2.length c13), (9, .int .i64 i3), (8, .int .i64 bb)]) (fun ⟨i3, bb⟩ => [rw_ eTK 61 (.slice A12 X2.length c13) X2, rw_ eB 4 (.slice (some ⟨b11, 0, none⟩) Y.length Y.length) U, rw_ eTK 61 (.slice A8 Y.length c9) Y, cel b1 (cPB p) 29]) (fun _ => S) (fun _ => wf) (fun ⟨i3, bb⟩ => ((Y.length : Int) - i3).toNat) (fun a_ w_ hs_ hw_ => ⟨⟨0, (-1)⟩, (by (try dsimp only); exact ⟨oO, oO, best_init, oO⟩), hs_.mono (Sub.get (.c4 G G G G (.c4 G G G G (.c G .n)))), hw_.keep (.d (.d .n))⟩) (fun ⟨i3, bb⟩ ⟨t_0, t_1, t_2, t_3⟩ => ?_)))
  try dsimp only
  refine .seq (.seq (.region (.m G G G (.m G G G (.g underlying58 G G G ?_)))))
  refine .e G G G G G (.go idQ (.condI G bD (fun h16 => ?_) (fun h16 => ?_)))
  ·
   refine .skipgo idQ (.seq (.block (.seq ?_)))
   have hul := s_0.ulen
   refine SC.draw mo [] [] .n (fun _ _ _ => sc0) (fun wf_17 hl_17 hx_17 hR_17 => ?_)
   refine SR.z 0 G G (ev_lda (cs := (cPB p)) G G (At.d (At.lent hR_17 3 G G)) ty29) ?_
   refine SR.m 1 G G G G ?_
   refine SR.m 2 G G G G ?_
   refine SR.z 3 G G (ev_ix G underlying58 ty61 G G oO oO (fun _ _ => Fr.adr (i := i3) (Fr.lent (S := S) hR_17 2 G lO) oO oO)) ?_
   refine SR.z 4 G G (ev_lda G G (At.d (Fr.el (i := i3) (Fr.lent (S := S) hR_17 2 G lO) oO oO)) ty61) ?_
   refine SR.o 5 G (st_callk G G G G hbd28 G .n (facts_ p (gt Y i3) _ _ ((hPB).ext hx_17)) ⟨tt0, ?_⟩)
   refine SR.m 6 G G G G ?_
   refine SR.z 7 G G (ev_ext G G G) ?_
   refine SR.z 8 G G (ev_ext G G G) ?_
   refine SR.z 9 G G (ev_as G G) ?_
   refine SR.z 10 G G (ev_as G G) ?_
   refine SR.fin kR hl_17 hx_17 hR_17 .n ?_
   refine SQ.go idQ ?_
   refine .seq (.seq (.region (.m G G G (.m G G G (.v (ev_ix G underlying98 ty4 G G oO oO (fun _ _ => G)) G ?_)))))
   refine .v (ev_ld1 G ty4 G (At.elem1 (row_el (E := eB) (l := U) (i := i3) 1 G oO oO) 0 G)) G (.go idQ (.condI G bV (fun h18 => ?_) (fun h18 => ?_)))
   ·
    refine .exit idQ ?_
    refine .region (.m G G G (.p ((i3 + 1)) oO oO G G G G G (.a G G G ?_)))
    exact SP.nil (SQ.roundb (X := Int × Int) (x := (i3, bb)) ⟨(i3 + 1), bb⟩ (by (try dsimp only); exact ⟨oO, oO, (best_used t_2 (by assumption)), oO⟩) dO (Sub.get (.c4 G G G G (.c4 G G G G (.c G .n)))) (kp (.d (.d .n))))
   refine .skipgo idQ (.seq (.seq (.region (.m G G G (.e G G G G G (.go idQ ?_))))))
   refine .condI G bD (fun h19 => ?_) (fun h19 => ?_)
   ·
    refine .region (.m G G G (.a G G G (.go idQ (.seq ?_))))
    refine SC.draw mo [] [] .n (fun _ _ _ => sc0) (fun wf_20 hl_20 hx_20 hR_20 => ?_)
    refine SR.z 0 G G (ev_lda (cs := (cPB p)) G G (At.d (At.lent hR_20 3 G G)) ty29) ?_
    refine SR.m 1 G G G G ?_
    refine SR.m 2 G G G G ?_
    refine SR.z 3 G G (ev_ix G underlying58 ty61 G G oO oO (fun _ _ => Fr.adr (i := i3) (Fr.lent (S := S) hR_20 2 G lO) oO oO)) ?_
    refine SR.z 4 G G (ev_lda G G (At.d (Fr.el (i := i3) (Fr.lent (S := S) hR_20 2 G lO) oO oO)) ty61) ?_
    refine SR.o 5 G (st_callk G G G G hbd28 G .n (facts_ p (gt Y i3) _ _ ((hPB).ext hx_20)) ⟨tt0, ?_⟩)
    refine SR.m 6 G G G G ?_
    refine SR.z 7 G G (ev_ext G G G) ?_
    refine SR.z 8 G G (ev_ext G G G) ?_
    refine SR.z 9 G G (ev_as G G) ?_
    refine SR.z 10 G G (ev_as G G) ?_
    refine SR.fin kR hl_20 hx_20 hR_20 .n ?_
    refine SQ.go idQ ?_
    refine .seq (.region (.m G G G (.m G G G (.e G G G G G ?_))))
    refine .go idQ (.condI G bD (fun h21 => ?_) (fun h21 => ?_))
    ·
     refine .region (.m G G G (.a G G G (.go idQ (.region ?_))))
     refine .m G G G (.p ((i3 + 1)) oO oO G G G G G (.a G G G ?_))
     exact SP.nil (SQ.roundb (X := Int × Int) (x := (i3, bb)) ⟨(i3 + 1), i3⟩ (by (try dsimp only); exact ⟨oO, oO, (best_new t_2 oO (by simpa using (by assumption : ¬ gt U i3 = true)) (by first | (left; omega) | (right; show -(prioF p _) < -(prioF p _); omega))), oO⟩) dO (Sub.get (.c4 G G G G (.c4 G G G G (.c G .n)))) (kp (.d (.d .n))))
    refine .skipgo idQ (.region (.m G G G (.p ((i3 + 1)) oO oO G G G G G (.a G G G ?_))))
    exact SP.nil (SQ.roundb (X := Int × Int) (x := (i3, bb)) ⟨(i3 + 1), i3⟩ (by (try dsimp only); exact ⟨oO, oO, (best_new t_2 oO (by simpa using (by assumption : ¬ gt U i3 = true)) (by first | (left; omega) | (right; show -(prioF p _) < -(prioF p _); omega))), oO⟩) dO (Sub.get (.c4 G G G G (.c4 G G G G (.c G .n)))) (kp (.d (.d .n))))
   refine .skipgo idQ (.seq ?_)
   refine SC.draw mo [] [] .n (fun _ _ _ => sc0) (fun wf_22 hl_22 hx_22 hR_22 => ?_)
   refine SR.z 0 G G (ev_lda (cs := (cPB p)) G G (At.d (At.lent hR_22 3 G G)) ty29) ?_
   refine SR.m 1 G G G G ?_
   refine SR.m 2 G G G G ?_
   refine SR.z 3 G G (ev_ix G underlying58 ty61 G G oO oO (fun _ _ => Fr.adr (i := bb) (Fr.lent (S := S) hR_22 2 G lO) oO oO)) ?_
   refine SR.z 4 G G (ev_lda G G (At.d (Fr.el (i := bb) (Fr.lent (S := S) hR_22 2 G lO) oO oO)) ty61) ?_
   refine SR.o 5 G (st_callk G G G G hbd28 G .n (facts_ p (gt Y bb) _ _ ((hPB).ext hx_22)) ⟨tt0, ?_⟩)
   refine SR.m 6 G G G G ?_
   refine SR.z 7 G G (ev_ext G G G) ?_
   refine SR.z 8 G G (ev_ext G G G) ?_
   refine SR.z 9 G G (ev_as G G) ?_
   refine SR.z 10 G G (ev_as G G) ?_
   refine SR.fin kR hl_22 hx_22 hR_22 .n ?_
   refine SQ.go idQ ?_
   refine .seq (.region (.m G G G (.m G G G (.e G G G G G ?_))))
   refine .go idQ (.condI G bD (fun h23 => ?_) (fun h23 => ?_))
   ·
    refine .region (.m G G G (.a G G G (.go idQ (.region ?_))))
    refine .m G G G (.p ((i3 + 1)) oO oO G G G G G (.a G G G ?_))
    exact SP.nil (SQ.roundb (X := Int × Int) (x := (i3, bb)) ⟨(i3 + 1), i3⟩ (by (try dsimp only); exact ⟨oO, oO, (best_new t_2 oO (by simpa using (by assumption : ¬ gt U i3 = true)) (by first | (left; omega) | (right; show -(prioF p _) < -(prioF p _); omega))), oO⟩) dO (Sub.get (.c4 G G G G (.c4 G G G G (.c G .n)))) (kp (.d (.d .n))))
   refine .skipgo idQ (.region (.m G G G (.p ((i3 + 1)) oO oO G G G G G (.a G G G ?_))))
   exact SP.nil (SQ.roundb (X := Int × Int) (x := (i3, bb)) ⟨(i3 + 1), bb⟩ (by (try dsimp only); exact ⟨oO, oO, (best_keep t_2 oO oO (by show ¬ -(prioF p _) < -(prioF p _); omega)), oO⟩) dO (Sub.get (.c4 G G G G (.c4 G G G G (.c G .n)))) (kp (.d (.d .n))))
  refine .exit idQ ?_
  refine .seq ?_
  have hul := s_0.ulen
  have hbs : 0 ≤ bb ∧ bb < (Y.length : Int) := by have h_ := best_some s_0 t_2 oO oO; omega
  refine .region (.m G G G (.m G G G (.v (ev_ix G underlying98 ty4 G G oO oO (fun _ _ => G)) G ?_)))
  refine .cons (st_setel (E := eB) (i := bb) (cs := [.bool true]) (off := 0) true G G G ty4 G G G G G (.t .h) lO lO (Nat.le_of_ble_eq_true G) G ?_)
  refine .go idQ (.region (.m G G G (.m G G G (.m G G G ?_))))
  refine .v (ev_ix G underlying58 ty61 G G oO oO (row_adr (i := bb) 2 G oO oO)) G (.v (ev_lda G G (row_el (E := eTK) (l := Y) (i := bb) 2 G oO oO) ty61) G (.cons (st_lit eTK (e := 61) (l := [(gt Y bb)]) G G G G kR G G kW (fun b24 => (.cons (st_app (E := eTK) (m := [(gt Y bb)]) G G G G underlying58 ai61 G G G (.t2 .h) rO (row_src 0 G) lO G (fun v25 => ?_)))))))
  refine .a G G G ?_
  exact SP.nil (SQ.roundb (X := (List TK) × Value × (List Bool)) (x := (X2, (.slice A12 X2.length c13), U)) ⟨(X2 ++ [(gt Y bb)]), v25, (U.set (bb).toNat true)⟩ (by (try dsimp only); exact ⟨(sel_step s_0 t_2 oO oO), (by simp only [List.length_append, List.length_singleton]; omega)⟩) (by show (_ : Nat) < _; simp only [List.length_append, List.length_singleton]; omega) (Sub.get (.c4 G G G G (.c G (.c G (.c G .n))))) (kp (.c .h (.c (.t .h) (.c (.t .h) (.c (.t .h) .n))))))
 refine .exit idQ ?_
 refine .seq (.region (.m G G G (.a G G G (.go idQ ?_))))
 exact .ret idQ (ret1 results29 G (.c .h .n) ⟨.slice A12 X2.length c13, G, (by rw [sel_end (ltT_key p) s_0 oO, hY]; rfl)⟩)
end Go.Proofs.YtimhdimhdimbjaaGreat.Sx
set_option maxRecDepth 20000
set_option maxHeartbeats 1000000
set_option maxRecDepth 20000
set_option maxHeartbeats 1000000
set_option maxRecDepth 20000
set_option maxHeartbeats 1000000
namespace Go.Proofs.YtimhdimhdimbjaaGreat.Sx.FP
open Go Go.SX Go.Proofs Go.Proofs.Tryz FA FB FC FD FE FF FG FH FJ FK FL FM
theorem hbd117 : hasBody prog 117 = true := by kernel_rfl
theorem hbd76 : hasBody prog 76 = true := by kernel_rfl
theorem hbd39 : hasBody prog 39 = true := by kernel_rfl
theorem hbd36 : hasBody prog 36 = true := by kernel_rfl
theorem hbd37 : hasBody prog 37 = true := by kernel_rfl
theorem zf80 : (prog.info? 80).bind (fun i => i.zero.map Value.cells) = some (List.toArray [.int .i64 0, .int .i64 0, .slice none 0 0, .slice none 0 0, .slice none 0 0, .int .u64 0, .int .i64 0]) := by kernel_rfl
theorem hbd38 : hasBody prog 38 = true := by kernel_rfl
theorem zf83 : (prog.info? 83).bind (fun i => i.zero.map Value.cells) = some (List.toArray [.int .i64 0, .int .i64 0, .slice none 0 0, .int .i64 0, .int .i64 0, .slice none 0 0, .slice none 0 0, .int .u64 0, .int .i64 0]) := by kernel_rfl
theorem hbd17 : hasBody prog 17 = true := by kernel_rfl
end Go.Proofs.YtimhdimhdimbjaaGreat.Sx.FP
namespace Go.Proofs.YtimhdimhdimbjaaGreat.Sx
open Go Go.SX Go.Proofs Go.Proofs.Tryz FA FB FC FD FE FF FG FH FJ FK FL FM FP
theorem rchk_ (A : Option Addr) (c : Nat) (l : List Int) (n : Int) (S : Nat → Prop) (wf : World) (hA : Fr eZ S wf A l) :
  TR0 prog 39 [.slice A l.length c, .int .i64 n] [] S wf (fun v_ C_ => v_ = .int .i64 (chkE l n) ∧ C_ = []) := by
 have hla := hA.len
 refine TR.mk func39 G ntmps39 G G (fun w_ => ?_)
 refine .seq (.region (.a G G G (.go idQ (.seq (.seq (.region (.m G G G ?_)))))))
 refine .g underlying22 G G G (.m G G G (.e G G G G G (.go idQ ?_)))
 refine .condI G bNE (fun h1 => ?_) (fun h1 => ?_)
 ·
  refine .seq (.region (.a G G G (.go idQ (.ret idQ (ret1 results39 G .n ⟨(congrArg (Value.int .i64) (chk_43 oO)), G⟩)))))
 refine .skipgo idQ (.seq (.seq (.region (.a G G G (.go idQ (.block (.loop (X := Int) (fun i => 0 ≤ i ∧ i ≤ (l.length : Int) ∧ (∀ j : Int, 0 ≤ j → j < i → 0 ≤ gt l j ∧ gt l j ≤ 1000000)) (fun i => [(0, .slice A l.length c), (5, .int .i64 i)]) (fun i => []) (fun _ => S) (fun _ => wf) (fun i => ((l.length : Int) - i).toNat) (fun a_ w_ hs_ hw_ => ⟨0, (by (try dsimp only); exact ⟨oO, oO, (fun j h0_ h1_ => by omega)⟩), hs_.mono (Sub.get (.c G (.c G .n))), hw_.keep .n⟩) (fun i ⟨q_0, q_1, q_2⟩ => ?_))))))))
 try dsimp only
 refine .seq (.seq (.region (.m G G G (.m G G G (.g underlying22 G G G ?_)))))
 refine .e G G G G G (.go idQ (.condI G bD (fun h2 => ?_) (fun h2 => ?_)))
 ·
  refine .skipgo idQ (.seq (.block (.seq (.region (.m G G G (.m G G G (.v (ev_ix G underlying22 ty3 G G oO oO (fun _ _ => Fr.adr (i := i) hA oO oO)) G ?_)))))))
  refine .v (ev_ld1 G ty3 G (At.elem1 (At.w (Fr.el (i := i) hA oO oO)) 0 G)) G (.e G G G G G (.m G G G (.w (fun _ => ev_mv G G) G ?_)))
  refine .w (fun _ => ev_mv G G) G (.w (fun hb => have hp := bF bD hb; ev_ix G underlying22 ty3 (lkg G hb) (lkg G hb) (by have _h := hp; omega) (by have _h := hp; omega) (fun _ _ => Fr.adr (i := i) hA (by have _h := hp; omega) (by have _h := hp; omega))) G (.w (fun hb => have hp := bF bD hb; ev_ld1 G ty3 (lkg G hb) (At.elem1 (At.w (Fr.el (i := i) hA (by have _h := hp; omega) (by have _h := hp; omega))) 0 G)) G (.w (fun hb => ev_cmp G (lkg G hb) G G) G ?_)))
  refine .r G G G G G (.go idQ (.condI G (bO bD bD) (fun h3 => ?_) (fun h3 => ?_)))
  ·
   refine .seq (.region (.a G G G (.go idQ (.ret idQ (ret1 results39 G .n ⟨(congrArg (Value.int .i64) (chk_2 (i := i) oO oO)), G⟩)))))
  refine .skipgo idQ (.region (.m G G G (.p ((i + 1)) oO oO G G G G G (.a G G G ?_))))
  exact SP.nil (SQ.roundb (X := Int) (x := (i)) (i + 1) (by (try dsimp only); exact ⟨oO, oO, (upto_nx q_2 oO)⟩) (by show (_ : Nat) < _; omega) (Sub.get (.c G (.c G .n))) (kp .n))
 refine .exit idQ ?_
 refine .seq (.region (.a G G G (.go idQ (.ret idQ (ret1 results39 G .n ⟨(congrArg (Value.int .i64) (chk_ok (i := i) oO q_2 oO)), G⟩)))))
theorem rwins_ (A : Option Addr) (c : Nat) (l : List WN) (S : Nat → Prop) (wf : World) (hA : Fr eWN S wf A l) :
  TR0 prog 117 [.slice A l.length c] [] S wf (fun v_ C_ => ∃ (x : Int) (e : Int), (e = 0 ↔ WinsOk l) ∧ v_ = .tuple #[.int .i64 x, .int .i64 e] ∧ C_ = []) := by
 have hla := hA.len
 refine TR.mk func117 G ntmps117 G G (fun w_ => ?_)
 refine .seq (.region (.a G G G (.a G G G (.go idQ (.seq (.seq (.region ?_)))))))
 refine .m G G G (.g underlying73 G G G (.e G G G G G (.m G G G ?_)))
 refine .w (fun _ => ev_mv G G) G (.w (fun hb => ev_len G underlying73 (lkg G hb)) G (.w (fun hb => ev_cmp G (lkg G hb) G G) G (.r G G G G G ?_)))
 refine .go idQ (.condI G (bO bD bD) (fun h1 => ?_) (fun h1 => ?_))
 ·
  refine .seq (.region (.a G G G (.a G G G (.go idQ ?_))))
  exact .ret idQ (ret2 results117 G G .n ⟨(-1), 43, (⟨fun h_ => by omega, fun h_ => absurd h_ (wins_len oO)⟩), G, G⟩)
 refine .skipgo idQ (.seq (.seq (.region (.a G G G (.go idQ (.block (.loop (X := Int) (fun i => 0 ≤ i ∧ i ≤ (l.length : Int) ∧ (∀ j : Int, 0 ≤ j → j < i → winAt l j)) (fun i => [(0, .slice A l.length c), (4, .int .i64 i)]) (fun i => []) (fun _ => S) (fun _ => wf) (fun i => ((l.length : Int) - i).toNat) (fun a_ w_ hs_ hw_ => ⟨0, (by (try dsimp only); exact ⟨oO, oO, (fun j h0_ h1_ => by omega)⟩), hs_.mono (Sub.get (.c G (.c G .n))), hw_.keep .n⟩) (fun i ⟨q_0, q_1, q_2⟩ => ?_))))))))
 try dsimp only
 refine .seq (.seq (.region (.m G G G (.m G G G (.g underlying73 G G G ?_)))))
 refine .e G G G G G (.go idQ (.condI G bD (fun h2 => ?_) (fun h2 => ?_)))
 ·
  refine .skipgo idQ (.seq (.block (.seq (.seq ?_))))
  refine SC.draw mo [] [] .n (fun _ _ _ => sc0) (fun wf_3 hl_3 hx_3 hR_3 => ?_)
  refine SR.m 0 G G G G ?_
  refine SR.m 1 G G G G ?_
  refine SR.z 2 G G (ev_ix G underlying73 ty69 G G oO oO (fun _ _ => Fr.adr (i := i) (Fr.ext hA hx_3) oO oO)) ?_
  refine SR.z 3 G G (ev_fa G fo69_0 G (r := ao A + (i).toNat * 2) G) ?_
  refine SR.z 4 G G (ev_ld1 G ty3 G (At.elem1 (At.d (Fr.el (i := i) (Fr.ext hA hx_3) oO oO)) 0 G)) ?_
  refine SR.z 5 G G (ev_cmp G G G G) ?_
  refine SR.m 6 G G G G ?_
  refine SR.y 7 G G (fun _ => ev_mv G G) ?_
  refine SR.y 8 G G (fun _ => ev_mv G G) ?_
  refine SR.y 9 G G (fun hb => have hp := bF bD hb; ev_ix G underlying73 ty69 (lkg G hb) (lkg G hb) (by have _h := hp; omega) (by have _h := hp; omega) (fun _ _ => Fr.adr (i := i) (Fr.ext hA hx_3) (by have _h := hp; omega) (by have _h := hp; omega))) ?_
  refine SR.y 10 G G (fun hb => ev_fa G fo69_1 (lkg G hb) (r := ao A + (i).toNat * 2 + 1) G) ?_
  refine SR.y 11 G G (fun hb => have hp := bF bD hb; ev_ld1 G ty3 (lkg G hb) (At.elem1 (At.d (Fr.el (i := i) (Fr.ext hA hx_3) (by have _h := hp; omega) (by have _h := hp; omega))) 1 G)) ?_
  refine SR.y 12 G G (fun hb => ev_cmp G (lkg G hb) G G) ?_
  refine SR.z 13 G G (ev_or G G G G) ?_
  refine SR.m 14 G G G G ?_
  refine SR.y 15 G G (fun _ => ev_mv G G) ?_
  refine SR.y 16 G G (fun _ => ev_mv G G) ?_
  refine SR.y 17 G G (fun hb => have hp := bF (bO bD bD) hb; ev_ix G underlying73 ty69 (lkg G hb) (lkg G hb) (by have _h := hp; omega) (by have _h := hp; omega) (fun _ _ => Fr.adr (i := i) (Fr.ext hA hx_3) (by have _h := hp; omega) (by have _h := hp; omega))) ?_
  refine SR.y 18 G G (fun hb => ev_fa G fo69_0 (lkg G hb) (r := ao A + (i).toNat * 2) G) ?_
  refine SR.y 19 G G (fun hb => have hp := bF (bO bD bD) hb; ev_ld1 G ty3 (lkg G hb) (At.elem1 (At.d (Fr.el (i := i) (Fr.ext hA hx_3) (by have _h := hp; omega) (by have _h := hp; omega))) 0 G)) ?_
  refine SR.y 20 G G (fun _ => ev_mv G G) ?_
  refine SR.y 21 G G (fun _ => ev_mv G G) ?_
  refine SR.y 22 G G (fun hb => have hp := bF (bO bD bD) hb; ev_ix G underlying73 ty69 (lkg G hb) (lkg G hb) (by have _h := hp; omega) (by have _h := hp; omega) (fun _ _ => Fr.adr (i := i) (Fr.ext hA hx_3) (by have _h := hp; omega) (by have _h := hp; omega))) ?_
  refine SR.y 23 G G (fun hb => ev_fa G fo69_1 (lkg G hb) (r := ao A + (i).toNat * 2 + 1) G) ?_
  refine SR.y 24 G G (fun hb => have hp := bF (bO bD bD) hb; ev_ld1 G ty3 (lkg G hb) (At.elem1 (At.d (Fr.el (i := i) (Fr.ext hA hx_3) (by have _h := hp; omega) (by have _h := hp; omega))) 1 G)) ?_
  refine SR.y 25 G G (fun hb => ev_cmp G (lkg G hb) (lkg G hb) G) ?_
  refine SR.z 26 G G (ev_or G G G G) ?_
  refine SR.fin kR hl_3 hx_3 hR_3 .n ?_
  refine SQ.go idQ ?_
  refine .condI G (bO (bO bD bD) bD) (fun h4 => ?_) (fun h4 => ?_)
  ·
   refine .seq (.region (.m G G G (.a G G G (.a G G G ?_))))
   refine .go idQ (.ret idQ (ret2 results117 rfl rfl .n ⟨i, 2, (⟨fun h_ => by omega, fun h_ => absurd h_ (wins_no (i := i) oO oO (fun h_ => by obtain ⟨⟨h0_, h1_, h2_⟩, h3_⟩ := h_; omega))⟩), rfl, rfl⟩))
  refine .skipgo idQ (.seq ?_)
  refine SC.draw mo [] [] .n (fun _ _ _ => sc0) (fun wf_5 hl_5 hx_5 hR_5 => ?_)
  refine SR.m 0 G G G G ?_
  refine SR.z 1 G G (ev_cmp G G G G) ?_
  refine SR.m 2 G G G G ?_
  refine SR.y 3 G G (fun _ => ev_mv G G) ?_
  refine SR.y 4 G G (fun _ => ev_mv G G) ?_
  refine SR.y 5 G G (fun hb => have hp := bT bD hb; ev_ix G underlying73 ty69 (lkg G hb) (lkg G hb) (by have _h := hp; omega) (by have _h := hp; omega) (fun _ _ => Fr.adr (i := i) (Fr.ext hA hx_5) (by have _h := hp; omega) (by have _h := hp; omega))) ?_
  refine SR.y 6 G G (fun hb => ev_fa G fo69_0 (lkg G hb) (r := ao A + (i).toNat * 2) G) ?_
  refine SR.y 7 G G (fun hb => have hp := bT bD hb; ev_ld1 G ty3 (lkg G hb) (At.elem1 (At.d (Fr.el (i := i) (Fr.ext hA hx_5) (by have _h := hp; omega) (by have _h := hp; omega))) 0 G)) ?_
  refine SR.y 8 G G (fun _ => ev_mv G G) ?_
  refine SR.y 9 G G (fun _ => ev_mv G G) ?_
  refine SR.y 10 G G (fun hb => have hp := bT bD hb; ev_sub G (lkg G hb) G (r := (i - 1)) G (by have _h := hp; omega) (by have _h := hp; omega)) ?_
  refine SR.y 11 G G (fun hb => have hp := bT bD hb; ev_ix G underlying73 ty69 (lkg G hb) (lkg G hb) (by have _h := hp; omega) (by have _h := hp; omega) (fun _ _ => Fr.adr (i := (i - 1)) (Fr.ext hA hx_5) (by have _h := hp; omega) (by have _h := hp; omega))) ?_
  refine SR.y 12 G G (fun hb => ev_fa G fo69_1 (lkg G hb) (r := ao A + ((i - 1)).toNat * 2 + 1) G) ?_
  refine SR.y 13 G G (fun hb => have hp := bT bD hb; ev_ld1 G ty3 (lkg G hb) (At.elem1 (At.d (Fr.el (i := (i - 1)) (Fr.ext hA hx_5) (by have _h := hp; omega) (by have _h := hp; omega))) 1 G)) ?_
  refine SR.y 14 G G (fun hb => ev_cmp G (lkg G hb) (lkg G hb) G) ?_
  refine SR.z 15 G G (ev_and G G G G) ?_
  refine SR.fin kR hl_5 hx_5 hR_5 .n ?_
  refine SQ.go idQ ?_
  refine .condI G (bA bD bD) (fun h6 => ?_) (fun h6 => ?_)
  ·
   refine .seq (.region (.m G G G (.a G G G (.a G G G ?_))))
   refine .go idQ (.ret idQ (ret2 results117 rfl rfl .n ⟨i, 2, (⟨fun h_ => by omega, fun h_ => absurd h_ (wins_no (i := i) oO oO (fun h_ => by obtain ⟨⟨h0_, h1_, h2_⟩, h3_⟩ := h_; omega))⟩), rfl, rfl⟩))
  refine .skipgo idQ (.region (.m G G G (.p ((i + 1)) oO oO G G G G G (.a G G G ?_))))
  exact SP.nil (SQ.roundb (X := Int) (x := (i)) (i + 1) (by (try dsimp only); exact ⟨oO, oO, (upto_nx q_2 (by refine ⟨by omega, fun h_ => ?_⟩; omega))⟩) (by show (_ : Nat) < _; omega) (Sub.get (.c G (.c G .n))) (kp .n))
 refine .exit idQ ?_
 refine .seq (.region (.a G G G (.a G G G (.go idQ ?_))))
 exact .ret idQ (ret2 results117 G G .n ⟨(-1), 0, (⟨fun _ => wins_of oO q_2 oO, fun _ => G⟩), G, G⟩)
theorem rwin_ (A : Option Addr) (c : Nat) (l : List WN) (S : Nat → Prop) (wf : World) (hA : Fr eWN S wf A l) :
  TR0 prog 76 [.slice A l.length c] [] S wf (fun v_ C_ => v_ = .bool (dec (WinsOk l)) ∧ C_ = []) := by
 refine TR.mk func76 G ntmps76 G G (fun w_ => ?_)
 refine .seq (.region (.a G G G (.go idQ (.seq (.region (.m G G G ?_))))))
 refine .cons (st_call00 rfl rfl rfl rfl hbd117 rfl .n (rwins_ A c l _ _ hA) (by intro v C h; obtain ⟨_, _, _, rfl, rfl⟩ := h; rfl) (fun v_q3 q3 => ?_))
 obtain ⟨x1, e2, p4, rfl, -⟩ := q3
 refine .m G G G (.x G G G G (.x G G G G (.a G G G ?_)))
 refine .a G G G (.go idQ (.seq (.region (.m G G G (.e G G G G G ?_)))))
 refine .a G G G (.go idQ (.ret idQ (ret1 results76 G .n ⟨(congrArg Value.bool (eq_dec p4)), G⟩)))
theorem rmat_ (n : Int) (A : Option Addr) (c : Nat) (l : List Int) (k : Int) (S : Nat → Prop) (wf : World) (hA : Fr eZ S wf A l) (hk : 1 ≤ k ∧ k ≤ 32) :
  TR0 prog 36 [.agg #[.int .i64 n, .slice A l.length c], .int .i64 k] [] S wf (fun v_ C_ => v_ = .bool (dec (MatOk n l k)) ∧ C_ = []) := by
 have hla := hA.len
 have hkk := ij_rng (i := 0) (j := 0) (k := k) oO oO oO oO oO
 refine TR.mk func36 G ntmps36 G G (fun w_ => ?_)
 refine .seq (.region (.cons (st_boxa G G G G G (fun b1 => (.a G G G (.go idQ (.seq (.seq (.region ?_)))))))))
 refine .f fo24_0 0 G G G G (.l ty3 0 G G G G G (.m G G G (.e G G G G G ?_)))
 refine .m G G G (.w (fun _ => ev_fa G fo24_1 G (r := 1) G) G (.w (fun hb => ev_ld1 G ty22 (lkg G hb) (At.own1 0 G G)) G (.w (fun hb => ev_len G underlying22 (lkg G hb)) G ?_)))
 refine .w (fun _ => ev_mv G G) G (.w (fun _ => ev_mv G G) G (.w (fun hb => have hp := bF bNE hb; ev_mul G (lkg G hb) (lkg G hb) (r := (k * k)) G (by have _h := hp; omega) (by have _h := hp; omega)) G (.w (fun hb => ev_cmp G (lkg G hb) (lkg G hb) G) G ?_)))
 refine .r G G G G G (.go idQ (.condI G (bO bNE bNE) (fun h2 => ?_) (fun h2 => ?_)))
 ·
  refine .seq (.region (.a G G G (.go idQ (.ret idQ (ret1 results36 G .n ⟨(congrArg Value.bool (dec_f (fun h_ => by have h1_ := h_.1; have h2_ := h_.2.1; omega)).symm), G⟩)))))
 refine .skipgo idQ (.seq (.seq (.region (.a G G G (.go idQ (.block (.loop (X := Int) (fun i => 0 ≤ i ∧ i ≤ k ∧ (∀ a b : Int, 0 ≤ a → a < i → 0 ≤ b → b < k → matAt l k a b)) (fun i => [(1, .int .i64 k), (2, .pointer (some ⟨b1, 0, none⟩)), (5, .int .i64 i)]) (fun i => [cel b1 [.int .i64 n, .slice A l.length c] 24]) (fun _ => S) (fun _ => wf) (fun i => (k - i).toNat) (fun a_ w_ hs_ hw_ => ⟨0, (by (try dsimp only); exact ⟨oO, oO, (fun a b h0_ h1_ h2_ h3_ => by omega)⟩), hs_.mono (Sub.get (.c G (.c G (.c G .n)))), hw_.keep (.c .h .n)⟩) (fun i ⟨q_0, q_1, q_2⟩ => ?_))))))))
 try dsimp only
 refine .seq (.seq (.region (.m G G G (.m G G G (.e G G G G G ?_)))))
 refine .go idQ (.condI G bD (fun h3 => ?_) (fun h3 => ?_))
 ·
  refine .skipgo idQ (.seq (.block (.seq (.region (.a G G G (.go idQ (.block (.loop (X := Int) (fun j => 0 ≤ j ∧ j ≤ k ∧ (∀ b : Int, 0 ≤ b → b < j → matAt l k i b)) (fun j => [(1, .int .i64 k), (2, .pointer (some ⟨b1, 0, none⟩)), (5, .int .i64 i), (6, .int .i64 j)]) (fun j => [cel b1 [.int .i64 n, .slice A l.length c] 24]) (fun _ => S) (fun _ => wf) (fun j => (k - j).toNat) (fun a_ w_ hs_ hw_ => ⟨0, (by (try dsimp only); exact ⟨oO, oO, (fun b h0_ h1_ => by omega)⟩), hs_.mono (Sub.get (.c4 G G G G .n)), hw_.keep (.c .h .n)⟩) (fun j ⟨r_0, r_1, r_2⟩ => ?_)))))))))
  try dsimp only
  refine .seq (.seq (.region (.m G G G (.m G G G (.e G G G G G ?_)))))
  refine .go idQ (.condI G bD (fun h4 => ?_) (fun h4 => ?_))
  ·
   refine .skipgo idQ (.seq (.block (.seq ?_)))
   have hij := ij_rng (i := i) (j := j) (k := k) oO oO oO oO oO
   refine .region (.f fo24_1 1 G G G G (.l ty22 0 G G G G G (.m G G G ?_)))
   refine .m G G G (.v (ev_mul G G G (r := (i * k)) G oO oO) G (.m G G G (.p (((i * k) + j)) oO oO G G G G G ?_)))
   refine .v (ev_ix G underlying22 ty3 G G oO oO (fun _ _ => Fr.adr (i := ((i * k) + j)) hA oO oO)) G (.v (ev_ld1 G ty3 G (At.elem1 (At.w (Fr.el (i := ((i * k) + j)) hA oO oO)) 0 G)) G (.a G G G (.go idQ (.seq (.region ?_)))))
   refine .m G G G (.e G G G G G (.m G G G (.w (fun _ => ev_mv G G) G ?_)))
   refine .w (fun hb => ev_cmp G (lkg G hb) G G) G (.r G G G G G (.m G G G (.w (fun _ => ev_mv G G) G ?_)))
   refine .w (fun _ => ev_mv G G) G (.w (fun hb => ev_cmp G (lkg G hb) (lkg G hb) G) G (.w (fun hb => ev_mv G (lkg G hb)) G (.cons (Ev.ggstep (b1 := ((decide ((gt l ((i * k) + j)) < (-1))) || (decide ((gt l ((i * k) + j)) > 32000000)))) (b := (i == j)) cb_ft (fun hb1 _ => ev_mv G G) G G G G G ?_))))
   refine .cons (Ev.ggstep (b1 := ((decide ((gt l ((i * k) + j)) < (-1))) || (decide ((gt l ((i * k) + j)) > 32000000)))) (b := (i == j)) cb_ft (fun hb1 hb => ev_cmp G (lkg G hb) G G) G G G G G ?_)
   refine .w (fun hb => ev_and G (lkg G hb) (lkgn G cb_ft hb) G) G (.r G G G G G (.go idQ (.condI G (bO (bO bD bD) (bA bE bNE)) (fun h5 => ?_) (fun h5 => ?_))))
   ·
    refine .seq (.region (.a rfl rfl rfl (.go idQ (.ret idQ (ret1 results36 rfl .n ⟨(congrArg Value.bool (dec_f (fun h_ => by obtain ⟨h2_, h3_, h4_⟩ := h_.2.2 i j oO oO oO oO; omega)).symm), rfl⟩)))))
   refine .skipgo idQ (.region (.m G G G (.p ((j + 1)) oO oO G G G G G (.a G G G ?_))))
   exact SP.nil (SQ.roundb (X := Int) (x := (j)) (j + 1) (by (try dsimp only); exact ⟨oO, oO, (upto_nx r_2 ⟨by omega, by omega, fun h_ => by omega⟩)⟩) (by show (_ : Nat) < _; omega) (Sub.get (.c4 G G G G .n)) (kp (.c .h .n)))
  refine .exit idQ ?_
  refine .region (.m G G G (.p ((i + 1)) oO oO G G G G G (.a G G G ?_)))
  exact SP.nil (SQ.roundb (X := Int) (x := (i)) (i + 1) (by (try dsimp only); exact ⟨oO, oO, (mat_nx q_2 r_2 oO)⟩) (by show (_ : Nat) < _; omega) (Sub.get (.c G (.c G (.c G .n)))) (kp (.c .h .n)))
 refine .exit idQ ?_
 refine .seq (.region (.a G G G (.go idQ (.ret idQ (ret1 results36 G .n ⟨(congrArg Value.bool (dec_t ⟨by omega, by omega, fun a_ b_ h0_ h1_ h2_ h3_ => q_2 a_ b_ h0_ oO h2_ h3_⟩).symm), G⟩)))))
theorem rstopc_ (s : SO) (k : Int) (S : Nat → Prop) (wf : World) (hS : SOF S wf s) (hk : 1 ≤ k ∧ k ≤ 32) :
  TR0 prog 38 [.agg #[.int .i64 s.pl, .int .i64 s.srv, .slice s.soA s.sws.length s.soc], .int .i64 k] [] S wf (fun v_ C_ => v_ = .bool (dec (StopOk k s)) ∧ C_ = []) := by
 refine TR.mk func38 G ntmps38 G G (fun w_ => ?_)
 refine .seq (.region (.cons (st_boxa G G G G G (fun b1 => (.a G G G (.go idQ (.seq (.region ?_))))))))
 refine .f fo78_0 0 G G G G (.l ty3 0 G G G G G (.m G G G (.v (ev_sub G G G (r := (k - 1)) G oO oO) G ?_)))
 refine .cons (st_callk G G G G hbd35 G .n (up_ s.pl (k - 1) _ _) ?_)
 refine .m G G G (.w (fun _ => ev_fa G fo78_1 G (r := 1) G) G (.w (fun hb => ev_ld1 G ty3 (lkg G hb) (At.own1 0 G G)) G (.cons (st_gcallk G G G G G G hbd35 (fun hb => (lkA1 (lkg G hb) (lkA1 G lkA0))) .n (fun hb => have hp := bT (bA bD bD) hb; up_ s.srv 1000000 _ _) ?_))))
 refine .v (ev_and G G G G) G (.m G G G (.w (fun _ => ev_fa G fo78_2 G (r := 2) G) G (.w (fun hb => ev_ld1 G ty73 (lkg G hb) (At.own1 0 G G)) G ?_)))
 refine .cons (st_gcallk G G G G G G hbd76 (fun hb => (lkA1 (lkg G hb) lkA0)) .n (fun hb => have hp := bT (bA (bA bD bD) (bA bD bD)) hb; rwin_ s.soA s.soc s.sws _ _ hS) ?_)
 refine .v (ev_and G G G G) G (.a G G G (.go idQ (.ret idQ (ret1 results38 G .n ⟨(congrArg Value.bool stopB_), G⟩))))
theorem rveh_ (v : VH) (d : Int) (k : Int) (S : Nat → Prop) (wf : World) (hV : VHF S wf v) (hk : 1 ≤ k ∧ k ≤ 32) (hsk : 0 ≤ v.vsk) :
  TR0 prog 37 [.agg #[.int .i64 v.st, .int .i64 v.en, .slice v.vcA v.vcap.length v.vcc, .int .u64 v.vsk, .int .i64 v.lo, .int .i64 v.hi, .int .i64 v.fix, .int .i64 v.pt, .int .i64 v.pd, .int .i64 v.mt, .slice v.vbA v.brs.length v.vbc], .int .i64 d, .int .i64 k] [] S wf (fun v_ C_ => v_ = .bool (dec (VehOk d k v)) ∧ C_ = []) := by
 have hbl := hV.2.1.len
 refine TR.mk func37 G ntmps37 G G (fun w_ => ?_)
 refine .seq (.region (.cons (st_boxa G G G G G (fun b1 => (.a G G G (.go idQ (.seq (.seq (.region ?_)))))))))
 refine .f fo72_9 10 G G G G (.l ty70 0 G G G G G (.g underlying70 G G G (.e G G G G G ?_)))
 refine .go idQ (.condI G bD (fun h2 => ?_) (fun h2 => ?_))
 ·
  refine .seq (.region (.a G G G (.go idQ (.ret idQ (ret1 results37 G .n ⟨(congrArg Value.bool (vehB_1 oO)), G⟩)))))
 refine .skipgo idQ (.seq (.seq (.region (.a G G G (.go idQ (.block (.loop (X := Int) (fun i => 0 ≤ i ∧ i ≤ (v.brs.length : Int) ∧ (∀ j : Int, 0 ≤ j → j < i → WinsOk (gt v.brs j).bws ∧ 0 ≤ (gt v.brs j).bsrv ∧ (gt v.brs j).bsrv ≤ 1000000)) (fun i => [(1, .int .i64 d), (2, .int .i64 k), (3, .pointer (some ⟨b1, 0, none⟩)), (7, .int .i64 i)]) (fun i => [cel b1 [.int .i64 v.st, .int .i64 v.en, .slice v.vcA v.vcap.length v.vcc, .int .u64 v.vsk, .int .i64 v.lo, .int .i64 v.hi, .int .i64 v.fix, .int .i64 v.pt, .int .i64 v.pd, .int .i64 v.mt, .slice v.vbA v.brs.length v.vbc] 72]) (fun _ => S) (fun _ => wf) (fun i => ((v.brs.length : Int) - i).toNat) (fun a_ w_ hs_ hw_ => ⟨0, (by (try dsimp only); exact ⟨oO, oO, (fun j h0_ h1_ => by omega)⟩), hs_.mono (Sub.get (.c4 G G G G .n)), hw_.keep (.c .h .n)⟩) (fun i ⟨q_0, q_1, q_2⟩ => ?_))))))))
 try dsimp only
 refine .seq (.seq (.region (.m G G G (.f fo72_9 10 G G G G (.l ty70 0 G G G G G ?_)))))
 refine .g underlying70 G G G (.e G G G G G (.go idQ (.condI G bD (fun h3 => ?_) (fun h3 => ?_))))
 ·
  refine .skipgo idQ (.seq (.block (.seq (.region (.f fo72_9 10 G G G G (.l ty70 0 G G G G G (.m G G G ?_)))))))
  refine .v (ev_ix G underlying70 ty75 G G oO oO (fun _ _ => Fr.adr (i := i) hV.2.1 oO oO)) G (.f fo75_0 (ao v.vbA + (i).toNat * 2) G G G G (.v (ev_ld1 G ty73 G (At.elem1 (At.w (Fr.el (i := i) hV.2.1 oO oO)) 0 G)) G (.cons (st_callk G G G G hbd76 G .n (rwin_ ((gt v.brs i).bwA) ((gt v.brs i).bwc) ((gt v.brs i).bws) _ _ (hV.2.2 i)) ?_))))
  refine .v (ev_not G G) G (.m G G G (.w (fun _ => ev_fa G fo72_9 G (r := 10) G) G (.w (fun hb => ev_ld1 G ty70 (lkg G hb) (At.own1 0 G G)) G ?_)))
  refine .w (fun _ => ev_mv G G) G (.w (fun hb => have hp := bF (bN bV) hb; ev_ix G underlying70 ty75 (lkg G hb) (lkg G hb) (by have _h := hp; omega) (by have _h := hp; omega) (fun _ _ => Fr.adr (i := i) hV.2.1 (by have _h := hp; omega) (by have _h := hp; omega))) G (.w (fun hb => ev_fa G fo75_1 (lkg G hb) (r := ao v.vbA + (i).toNat * 2 + 1) G) G (.w (fun hb => have hp := bF (bN bV) hb; ev_ld1 G ty3 (lkg G hb) (At.elem1 (At.w (Fr.el (i := i) hV.2.1 (by have _h := hp; omega) (by have _h := hp; omega))) 1 G)) G ?_)))
  refine .cons (st_gcallk G G G G G G hbd35 (fun hb => (lkA1 (lkg G hb) (lkA1 G lkA0))) .n (fun hb => have hp := bF (bN bV) hb; up_ ((gt v.brs i).bsrv) 1000000 _ _) ?_)
  refine .w (fun hb => ev_not G (lkg G hb)) G (.r G G G G G (.go idQ (.condI G (bO (bN bV) (bN (bA bD bD))) (fun h4 => ?_) (fun h4 => ?_))))
  ·
   refine .seq (.region (.a G G G (.go idQ (.ret idQ (ret1 results37 G .n ⟨(congrArg Value.bool (vehB_2 (i := i) oO oO (fun h_ => h4.elim (fun h2_ => h2_ (dec_t h_.1)) (fun h2_ => by have := h_.2; omega)))), G⟩)))))
  refine .skipgo idQ (.region (.m G G G (.p ((i + 1)) oO oO G G G G G (.a G G G ?_))))
  exact SP.nil (SQ.roundb (X := Int) (x := (i)) (i + 1) (by (try dsimp only); exact ⟨oO, oO, (upto_nx q_2 ⟨dec_p (Classical.byContradiction fun h2_ => h4 (.inl h2_)), by omega⟩)⟩) (by show (_ : Nat) < _; omega) (Sub.get (.c4 G G G G .n)) (kp (.c .h .n)))
 refine .exit idQ ?_
 refine .seq (.region (.f fo72_0 0 G G G G (.l ty3 0 G G G G G (.m G G G ?_))))
 refine .v (ev_sub G G G (r := (k - 1)) G oO oO) G (.cons (st_callk G G G G hbd35 G .n (up_ v.st (k - 1) _ _) (.m G G G (.w (fun _ => ev_fa G fo72_1 G (r := 1) G) G ?_))))
 refine .w (fun hb => ev_ld1 G ty3 (lkg G hb) (At.own1 0 G G)) G (.w (fun _ => ev_mv G G) G (.w (fun hb => have hp := bT (bA bD bD) hb; ev_sub G (lkg G hb) G (r := (k - 1)) G (by have _h := hp; omega) (by have _h := hp; omega)) G (.cons (st_gcallk G G G G G G hbd35 (fun hb => (lkA1 (lkg G hb) (lkA1 (lkg G hb) lkA0))) .n (fun hb => have hp := bT (bA bD bD) hb; up_ v.en (k - 1) _ _) ?_))))
 refine .v (ev_and G G G G) G (.m G G G (.w (fun _ => ev_fa G fo72_2 G (r := 2) G) G (.w (fun hb => ev_ld1 G ty22 (lkg G hb) (At.own1 0 G G)) G ?_)))
 refine .w (fun _ => ev_mv G G) G (.cons (st_gcallk G G G G G G hbd39 (fun hb => (lkA1 (lkg G hb) (lkA1 (lkg G hb) lkA0))) .n (fun hb => have hp := bT (bA (bA bD bD) (bA bD bD)) hb; rchk_ v.vcA v.vcc v.vcap d _ _ hV.1) (.w (fun hb => ev_cmp G (lkg G hb) G G) G (.v (ev_and G G G G) G ?_))))
 refine .m G G G (.w (fun _ => ev_fa G fo72_3 G (r := 3) G) G (.w (fun hb => ev_ld1 G ty67 (lkg G hb) (At.own1 0 G G)) G (.w (fun hb => ev_cmp G (lkg G hb) G G) G ?_)))
 refine .v (ev_and G G G G) G (.m G G G (.w (fun _ => ev_fa G fo72_4 G (r := 4) G) G (.w (fun hb => ev_lda (cs := [.int .i64 v.lo, .int .i64 v.hi]) G (lkg G hb) (At.own 0 G G) ty69) G ?_)))
 rcases Bool.eq_false_or_eq_true ((((decide (v.st ≥ 0) && decide (v.st ≤ (k - 1))) && (decide (v.en ≥ 0) && decide (v.en ≤ (k - 1)))) && ((chkE v.vcap d) == 0)) && (decide (v.vsk < 4611686018427387904))) with hb5 | hb5
 ·
  refine SP.reslot (t := 61) G hb5 ?_
  have hb5_ := bT (bA (bA (bA (bA bD bD) (bA bD bD)) bE) bD) hb5
  refine SP.reslotv (t := 63) G (gv_on hb5) ?_
  refine .cons (.on G G G (st_lit eWN (e := 69) (l := [(WN.mk v.lo v.hi)]) G G G G kR G G kW (fun b6 => ?_)))
  refine .cons (.on G G G (st_lendk G G G G hbd76 G .n (.c .h .n) (fun w_ hw => rwin_ (some ⟨b6, 0, none⟩) 1 [(WN.mk v.lo v.hi)] _ _ (Fr.lend hw 0 G lO)) ?_))
  refine .v (ev_pickt G G G G) G (.m G G G (.w (fun _ => ev_fa G fo72_5 G (r := 6) G) G (.w (fun hb => ev_ld1 G ty3 (lkg G hb) (At.own1 1 G G)) G ?_)))
  refine .cons (st_gcallk G G G G G G hbd35 (fun hb => (lkA1 (lkg G hb) (lkA1 G lkA0))) .n (fun hb => have hp := bT bV hb; up_ v.fix 1000000 _ _) ?_)
  refine .v (ev_and G G G G) G (.m G G G (.w (fun _ => ev_fa G fo72_6 G (r := 7) G) G (.w (fun hb => ev_ld1 G ty3 (lkg G hb) (At.own1 1 G G)) G ?_)))
  refine .cons (st_gcallk G G G G G G hbd35 (fun hb => (lkA1 (lkg G hb) (lkA1 G lkA0))) .n (fun hb => have hp := bT (bA bV (bA bD bD)) hb; up_ v.pt 1000000 _ _) ?_)
  refine .v (ev_and G G G G) G (.m G G G (.w (fun _ => ev_fa G fo72_7 G (r := 8) G) G (.w (fun hb => ev_ld1 G ty3 (lkg G hb) (At.own1 1 G G)) G ?_)))
  refine .cons (st_gcallk G G G G G G hbd35 (fun hb => (lkA1 (lkg G hb) (lkA1 G lkA0))) .n (fun hb => have hp := bT (bA (bA bV (bA bD bD)) (bA bD bD)) hb; up_ v.pd 1000000 _ _) ?_)
  refine .v (ev_and G G G G) G (.m G G G (.w (fun _ => ev_fa G fo72_8 G (r := 9) G) G (.w (fun hb => ev_ld1 G ty3 (lkg G hb) (At.own1 1 G G)) G ?_)))
  refine .cons (st_gcallk G G G G G G hbd35 (fun hb => (lkA1 (lkg G hb) (lkA1 G lkA0))) .n (fun hb => have hp := bT (bA (bA (bA bV (bA bD bD)) (bA bD bD)) (bA bD bD)) hb; up_ v.mt 12 _ _) ?_)
  refine .v (ev_and G G G G) G (.a G G G (.go idQ (.ret idQ (ret1 results37 G .n ⟨(congrArg Value.bool (vehB_4 oO hsk (fun j h0_ h1_ => q_2 j h0_ oO) hb5)), G⟩))))
 refine SP.reslot (t := 61) G hb5 ?_
 have hb5_ := bF (bA (bA (bA (bA bD bD) (bA bD bD)) bE) bD) hb5
 refine .cons (.off G G G G G G ?_)
 refine .cons (.off G G G G G G ?_)
 refine .v (ev_pickf G G G G) G (.m G G G (.cons (.off G G G G G G (.cons (.off G G G G G G ?_)))))
 refine .cons (.off G G G G G G ?_)
 refine .v (ev_pickf G G G G) G (.m G G G (.cons (.off G G G G G G (.cons (.off G G G G G G ?_)))))
 refine .cons (.off G G G G G G ?_)
 refine .v (ev_pickf G G G G) G (.m G G G (.cons (.off G G G G G G (.cons (.off G G G G G G ?_)))))
 refine .cons (.off G G G G G G ?_)
 refine .v (ev_pickf G G G G) G (.m G G G (.cons (.off G G G G G G (.cons (.off G G G G G G ?_)))))
 refine .cons (.off G G G G G G ?_)
 refine .v (ev_pickf G G G G) G (.a G G G (.go idQ (.ret idQ (ret1 results37 G .n ⟨(congrArg Value.bool (vehB_3 hb5)), G⟩))))
theorem rcheck_ (p : PB) (S : Nat → Prop) (wf : World) (hPB : PBF S wf p) (hU : SkU p) :
  TR0 prog 17 [.agg (cPB p).toArray] [] S wf (fun v_ C_ => ∃ (e : Int), (e = 0 → LawP p) ∧ v_ = .int .i64 e ∧ C_ = []) := by
 have hlv := hPB.2.2.1.1.len
 have hlj := hPB.2.2.2.1.1.len
 have hls := hPB.2.2.2.2.1.len
 refine TR.mk func17 G ntmps17 G G (fun w_ => ?_)
 refine .seq (.region (.cons (st_boxa G G G G G (fun b1 => (.a G G G (.go idQ (.seq (.region ?_))))))))
 refine .f fo29_1 1 G G G G (.f fo24_0 1 G G G G (.l ty3 0 G G G G G (.a G G G ?_)))
 refine .go idQ (.seq (.seq (.region (.f fo29_0 0 G G G G (.l ty3 0 G G G G G (.cons (st_callk G G G G hbd35 G .n (up_ p.dims 3 _ _) ?_)))))))
 refine .v (ev_not G G) G (.m G G G (.w (fun _ => ev_mv G G) G (.w (fun hb => ev_cmp G (lkg G hb) G G) G ?_)))
 refine .r G G G G G (.m G G G (.w (fun _ => ev_mv G G) G (.w (fun hb => ev_cmp G (lkg G hb) G G) G ?_)))
 refine .r G G G G G (.m G G G (.w (fun _ => ev_fa G fo29_1 G (r := 1) G) G (.w (fun hb => ev_lda (cs := [.int .i64 p.tn, .slice p.ptA p.time.length p.ptc]) G (lkg G hb) (At.own 0 G G) ty24) G ?_)))
 refine .w (fun _ => ev_mv G G) G (.cons (st_gcallk G G G G G G hbd36 (fun hb => (lkA1 (lkg G hb) (lkA1 (lkg G hb) lkA0))) .n (fun hb => have hp := bF (bO (bO (bN (bA bD bD)) bD) bD) hb; rmat_ p.tn p.ptA p.ptc p.time p.tn _ _ hPB.1 oO) (.w (fun hb => ev_not G (lkg G hb)) G (.r G G G G G ?_))))
 refine .m G G G (.w (fun _ => ev_fa G fo29_2 G (r := 3) G) G (.w (fun hb => ev_lda (cs := [.int .i64 p.dn, .slice p.pdA p.dist.length p.pdc]) G (lkg G hb) (At.own 0 G G) ty24) G (.w (fun _ => ev_mv G G) G ?_)))
 refine .cons (st_gcallk G G G G G G hbd36 (fun hb => (lkA1 (lkg G hb) (lkA1 (lkg G hb) lkA0))) .n (fun hb => have hp := bF (bO (bO (bO (bN (bA bD bD)) bD) bD) (bN bV)) hb; rmat_ p.dn p.pdA p.pdc p.dist p.tn _ _ hPB.2.1 oO) ?_)
 refine .w (fun hb => ev_not G (lkg G hb)) G (.r G G G G G (.go idQ (.condI G (bO (bO (bO (bO (bN (bA bD bD)) bD) bD) (bN bV)) (bN bV)) (fun h2 => ?_) (fun h2 => ?_))))
 ·
  refine .seq (.region (.a G G G (.go idQ (.ret idQ (ret1 results17 G .n ⟨2, (fun h_ => by omega), G, G⟩)))))
 refine .skipgo idQ (.seq (.seq (.region (.f fo29_3 5 G G G G (.l ty25 0 G G G G G (.g underlying25 G G G ?_))))))
 refine .e G G G G G (.m G G G (.w (fun _ => ev_fa G fo29_4 G (r := 6) G) G (.w (fun hb => ev_ld1 G ty26 (lkg G hb) (At.own1 0 G G)) G ?_)))
 refine .w (fun hb => ev_len G underlying26 (lkg G hb)) G (.w (fun _ => ev_fa G fo29_5 G (r := 7) G) G (.w (fun hb => ev_ld1 G ty27 (lkg G hb) (At.own1 0 G G)) G (.w (fun hb => ev_len G underlying27 (lkg G hb)) G ?_)))
 refine .w (fun hb => have hp := bF bD hb; ev_add G (lkg G hb) (lkg G hb) (r := ((p.jobs.length : Int) + (p.ships.length : Int))) G (by have _h := hp; omega) (by have _h := hp; omega)) G (.w (fun hb => ev_cmp G (lkg G hb) G G) G (.r G G G G G (.go idQ ?_)))
 refine .condI G (bO bD bD) (fun h3 => ?_) (fun h3 => ?_)
 ·
  refine .seq (.region (.a G G G (.go idQ (.ret idQ (ret1 results17 G .n ⟨27, (fun h_ => by omega), G, G⟩)))))
 refine .skipgo idQ (.seq (.seq ?_))
 have hM := mat_of h2
 have hN : (p.vehs.length : Int) ≤ 4 ∧ (p.jobs.length : Int) + p.ships.length ≤ 12 := by omega
 have hM1 := hM.2.1
 refine .region (.a G G G (.go idQ (.block (.loop (X := Int) (fun i => 0 ≤ i ∧ i ≤ (p.vehs.length : Int) ∧ (∀ j : Int, 0 ≤ j → j < i → VehOk p.dims p.tn (gt p.vehs j))) (fun i => [(1, .pointer (some ⟨b1, 0, none⟩)), (3, .int .i64 p.tn), (4, .int .i64 i)]) (fun i => [cel b1 (cPB p) 29]) (fun _ => S) (fun _ => wf) (fun i => ((p.vehs.length : Int) - i).toNat) (fun a_ w_ hs_ hw_ => ⟨0, (by (try dsimp only); exact ⟨oO, oO, (fun j h0_ h1_ => by omega)⟩), hs_.mono (Sub.get (.c G (.c G (.c G .n)))), hw_.keep (.c .h .n)⟩) (fun i ⟨q_0, q_1, q_2⟩ => ?_)))))
 try dsimp only
 refine .seq (.seq (.region (.m G G G (.f fo29_3 5 G G G G (.l ty25 0 G G G G G ?_)))))
 refine .g underlying25 G G G (.e G G G G G (.go idQ (.condI G bD (fun h4 => ?_) (fun h4 => ?_))))
 ·
  refine .skipgo idQ (.seq (.block (.seq ?_)))
  refine SC.draw mo [] [] .n (fun _ _ _ => sc0) (fun wf_5 hl_5 hx_5 hR_5 => ?_)
  refine SR.z 0 G G (ev_fa G fo29_3 G (r := 5) G) ?_
  refine SR.z 1 G G (ev_ld1 G ty25 G (At.d (At.lent hR_5 0 G G))) ?_
  refine SR.m 2 G G G G ?_
  refine SR.z 3 G G (ev_ix G underlying25 ty72 G G oO oO (fun _ _ => Fr.adr (i := i) ((hPB).ext hx_5).2.2.1.1 oO oO)) ?_
  refine SR.z 4 G G (ev_lda G G (At.d (Fr.el (i := i) ((hPB).ext hx_5).2.2.1.1 oO oO)) ty72) ?_
  refine SR.z 5 G G (ev_fa G fo29_0 G (r := 0) G) ?_
  refine SR.z 6 G G (ev_ld1 G ty3 G (At.d (At.lent hR_5 0 G G))) ?_
  refine SR.m 7 G G G G ?_
  refine SR.o 8 G (st_callk G G G G hbd37 G .n (rveh_ (gt p.vehs i) p.dims p.tn _ _ (((hPB).ext hx_5).2.2.1.2 i) oO (hU.v i)) ⟨tt0, ?_⟩)
  refine SR.z 9 G G (ev_not G G) ?_
  refine SR.fin kR hl_5 hx_5 hR_5 .n ?_
  refine SQ.go idQ ?_
  refine .condI G (bN bV) (fun h6 => ?_) (fun h6 => ?_)
  ·
   refine .seq (.region (.a G G G (.go idQ (.ret idQ (ret1 results17 G .n ⟨2, (fun h_ => by omega), G, G⟩)))))
  refine .skipgo idQ (.region (.m G G G (.p ((i + 1)) oO oO G G G G G (.a G G G ?_))))
  exact SP.nil (SQ.roundb (X := Int) (x := (i)) (i + 1) (by (try dsimp only); exact ⟨oO, oO, (upto_nx q_2 (dec_p (Classical.byContradiction fun h2_ => h6 h2_)))⟩) (by show (_ : Nat) < _; omega) (Sub.get (.c G (.c G (.c G .n)))) (kp (.c .h .n)))
 refine .exit idQ ?_
 refine .seq (.seq (.region (.a G G G (.go idQ (.block (.loop (X := Int) (fun k => 0 ≤ k ∧ k ≤ (p.jobs.length : Int) ∧ (∀ j : Int, 0 ≤ j → j < k → JobOk p.dims p.tn (gt p.jobs j))) (fun k => [(1, .pointer (some ⟨b1, 0, none⟩)), (3, .int .i64 p.tn), (4, .int .i64 i), (5, .int .i64 k)]) (fun k => [cel b1 (cPB p) 29]) (fun _ => S) (fun _ => wf) (fun k => ((p.jobs.length : Int) - k).toNat) (fun a_ w_ hs_ hw_ => ⟨0, (by (try dsimp only); exact ⟨oO, oO, (fun j h0_ h1_ => by omega)⟩), hs_.mono (Sub.get (.c4 G G G G .n)), hw_.keep (.c .h .n)⟩) (fun k ⟨r_0, r_1, r_2⟩ => ?_)))))))
 try dsimp only
 refine .seq (.seq (.region (.m G G G (.f fo29_4 6 G G G G (.l ty26 0 G G G G G ?_)))))
 refine .g underlying26 G G G (.e G G G G G (.go idQ (.condI G bD (fun h7 => ?_) (fun h7 => ?_))))
 ·
  refine .skipgo idQ (.seq (.block (.seq (.region (.f fo29_4 6 G G G G (.l ty26 0 G G G G G (.m G G G ?_)))))))
  refine .v (ev_ix G underlying26 ty80 G G oO oO (fun _ _ => Fr.adr (i := k) hPB.2.2.2.1.1 oO oO)) G (.v (ev_lda G G (At.w (Fr.el (i := k) hPB.2.2.2.1.1 oO oO)) ty80) G (.cons (st_alloc G G G G zf80 (fun b8 => (.cons (st_storea (l' := [.int .i64 (((gt p.jobs k).so).pl), .int .i64 (((gt p.jobs k).so).srv), .slice (((gt p.jobs k).so).soA) (((gt p.jobs k).so).sws.length) (((gt p.jobs k).so).soc), .slice ((gt p.jobs k).jdA) ((gt p.jobs k).drop.length) ((gt p.jobs k).jdc), .slice ((gt p.jobs k).jkA) ((gt p.jobs k).pick.length) ((gt p.jobs k).jkc), .int .u64 ((gt p.jobs k).jsk), .int .i64 ((gt p.jobs k).jpr)]) G G G ty80 G G G .h G G ?_))))))
  refine .go idQ (.seq (.region (.f fo80_0 0 G G G G (.v (ev_lda (cs := [.int .i64 (((gt p.jobs k).so).pl), .int .i64 (((gt p.jobs k).so).srv), .slice (((gt p.jobs k).so).soA) (((gt p.jobs k).so).sws.length) (((gt p.jobs k).so).soc)]) G G (At.own 0 G G) ty78) G (.m G G G ?_)))))
  refine .cons (st_callk G G G G hbd38 G .n (rstopc_ ((gt p.jobs k).so) p.tn _ _ ((hPB.2.2.2.1.2 k).2.2) oO) ?_)
  refine .v (ev_not G G) G (.m G G G (.w (fun _ => ev_fa G fo80_1 G (r := 3) G) G (.w (fun hb => ev_ld1 G ty22 (lkg G hb) (At.own1 0 G G)) G ?_)))
  refine .w (fun _ => ev_fa G fo29_0 G (r := 0) G) G (.w (fun hb => ev_ld1 G ty3 (lkg G hb) (At.own1 1 G G)) G (.cons (st_gcallk G G G G G G hbd39 (fun hb => (lkA1 (lkg G hb) (lkA1 (lkg G hb) lkA0))) .n (fun hb => have hp := bF (bN bV) hb; rchk_ ((gt p.jobs k).jdA) ((gt p.jobs k).jdc) ((gt p.jobs k).drop) p.dims _ _ ((hPB.2.2.2.1.2 k).1)) (.w (fun hb => ev_cmp G (lkg G hb) G G) G ?_))))
  refine .r G G G G G (.m G G G (.w (fun _ => ev_fa G fo80_2 G (r := 4) G) G (.w (fun hb => ev_ld1 G ty22 (lkg G hb) (At.own1 0 G G)) G ?_)))
  refine .w (fun _ => ev_fa G fo29_0 G (r := 0) G) G (.w (fun hb => ev_ld1 G ty3 (lkg G hb) (At.own1 1 G G)) G (.cons (st_gcallk G G G G G G hbd39 (fun hb => (lkA1 (lkg G hb) (lkA1 (lkg G hb) lkA0))) .n (fun hb => have hp := bF (bO (bN bV) bNE) hb; rchk_ ((gt p.jobs k).jkA) ((gt p.jobs k).jkc) ((gt p.jobs k).pick) p.dims _ _ ((hPB.2.2.2.1.2 k).2.1)) (.w (fun hb => ev_cmp G (lkg G hb) G G) G ?_))))
  refine .r G G G G G (.m G G G (.w (fun _ => ev_fa G fo80_3 G (r := 5) G) G (.w (fun hb => ev_ld1 G ty67 (lkg G hb) (At.own1 0 G G)) G ?_)))
  refine .w (fun hb => ev_cmp G (lkg G hb) G G) G (.r G G G G G (.m G G G (.w (fun _ => ev_fa G fo80_4 G (r := 6) G) G ?_)))
  refine .w (fun hb => ev_ld1 G ty3 (lkg G hb) (At.own1 0 G G)) G (.cons (st_gcallk G G G G G G hbd35 (fun hb => (lkA1 (lkg G hb) (lkA1 G lkA0))) .n (fun hb => have hp := bF (bO (bO (bO (bN bV) bNE) bNE) bD) hb; up_ ((gt p.jobs k).jpr) 100 _ _) (.w (fun hb => ev_not G (lkg G hb)) G (.r G G G G G ?_))))
  refine .go idQ (.condI G (bO (bO (bO (bO (bN bV) bNE) bNE) bD) (bN (bA bD bD))) (fun h9 => ?_) (fun h9 => ?_))
  ·
   refine .seq (.region (.a G G G (.go idQ (.ret idQ (ret1 results17 G .n ⟨2, (fun h_ => by omega), G, G⟩)))))
  refine .skipgo idQ (.region (.m G G G (.p ((k + 1)) oO oO G G G G G (.a G G G ?_))))
  exact SP.nil (SQ.roundb (X := Int) (x := (k)) (k + 1) (by (try dsimp only); exact ⟨oO, oO, (upto_nx r_2 (job_of h9 (hU.j k)))⟩) (by show (_ : Nat) < _; omega) (Sub.get (.c4 G G G G .n)) (kp (.c (.t .h) .n)))
 refine .exit idQ ?_
 refine .seq (.seq (.region (.a G G G (.go idQ (.block (.loop (X := Int) (fun m => 0 ≤ m ∧ m ≤ (p.ships.length : Int) ∧ (∀ j : Int, 0 ≤ j → j < m → ShipOk p.dims p.tn (gt p.ships j))) (fun m => [(1, .pointer (some ⟨b1, 0, none⟩)), (3, .int .i64 p.tn), (4, .int .i64 i), (5, .int .i64 k), (7, .int .i64 m)]) (fun m => [cel b1 (cPB p) 29]) (fun _ => S) (fun _ => wf) (fun m => ((p.ships.length : Int) - m).toNat) (fun a_ w_ hs_ hw_ => ⟨0, (by (try dsimp only); exact ⟨oO, oO, (fun j h0_ h1_ => by omega)⟩), hs_.mono (Sub.get (.c4 G G G G (.c G .n))), hw_.keep (.c .h .n)⟩) (fun m ⟨s_0, s_1, s_2⟩ => ?_)))))))
 try dsimp only
 refine .seq (.seq (.region (.m G G G (.f fo29_5 7 G G G G (.l ty27 0 G G G G G ?_)))))
 refine .g underlying27 G G G (.e G G G G G (.go idQ (.condI G bD (fun h10 => ?_) (fun h10 => ?_))))
 ·
  refine .skipgo idQ (.seq (.block (.seq (.region (.f fo29_5 7 G G G G (.l ty27 0 G G G G G (.m G G G ?_)))))))
  refine .v (ev_ix G underlying27 ty83 G G oO oO (fun _ _ => Fr.adr (i := m) hPB.2.2.2.2.1 oO oO)) G (.v (ev_lda G G (At.w (Fr.el (i := m) hPB.2.2.2.2.1 oO oO)) ty83) G (.cons (st_alloc G G G G zf83 (fun b11 => (.cons (st_storea (l' := [.int .i64 (((gt p.ships m).sp).pl), .int .i64 (((gt p.ships m).sp).srv), .slice (((gt p.ships m).sp).soA) (((gt p.ships m).sp).sws.length) (((gt p.ships m).sp).soc), .int .i64 (((gt p.ships m).sd).pl), .int .i64 (((gt p.ships m).sd).srv), .slice (((gt p.ships m).sd).soA) (((gt p.ships m).sd).sws.length) (((gt p.ships m).sd).soc), .slice ((gt p.ships m).saA) ((gt p.ships m).am.length) ((gt p.ships m).sac), .int .u64 ((gt p.ships m).ssk), .int .i64 ((gt p.ships m).spr)]) G G G ty83 G G G .h G G ?_))))))
  refine .go idQ (.seq (.region (.f fo83_0 0 G G G G (.v (ev_lda (cs := [.int .i64 (((gt p.ships m).sp).pl), .int .i64 (((gt p.ships m).sp).srv), .slice (((gt p.ships m).sp).soA) (((gt p.ships m).sp).sws.length) (((gt p.ships m).sp).soc)]) G G (At.own 0 G G) ty78) G (.m G G G ?_)))))
  refine .cons (st_callk G G G G hbd38 G .n (rstopc_ ((gt p.ships m).sp) p.tn _ _ ((hPB.2.2.2.2.2 m).2.1) oO) ?_)
  refine .v (ev_not G G) G (.m G G G (.w (fun _ => ev_fa G fo83_1 G (r := 3) G) G (.w (fun hb => ev_lda (cs := [.int .i64 (((gt p.ships m).sd).pl), .int .i64 (((gt p.ships m).sd).srv), .slice (((gt p.ships m).sd).soA) (((gt p.ships m).sd).sws.length) (((gt p.ships m).sd).soc)]) G (lkg G hb) (At.own 0 G G) ty78) G ?_)))
  refine .w (fun _ => ev_mv G G) G (.cons (st_gcallk G G G G G G hbd38 (fun hb => (lkA1 (lkg G hb) (lkA1 (lkg G hb) lkA0))) .n (fun hb => have hp := bF (bN bV) hb; rstopc_ ((gt p.ships m).sd) p.tn _ _ ((hPB.2.2.2.2.2 m).2.2) oO) (.w (fun hb => ev_not G (lkg G hb)) G (.r G G G G G ?_))))
  refine .m G G G (.w (fun _ => ev_fa G fo83_2 G (r := 6) G) G (.w (fun hb => ev_ld1 G ty22 (lkg G hb) (At.own1 0 G G)) G (.w (fun _ => ev_fa G fo29_0 G (r := 0) G) G ?_)))
  refine .w (fun hb => ev_ld1 G ty3 (lkg G hb) (At.own1 1 G G)) G (.cons (st_gcallk G G G G G G hbd39 (fun hb => (lkA1 (lkg G hb) (lkA1 (lkg G hb) lkA0))) .n (fun hb => have hp := bF (bO (bN bV) (bN bV)) hb; rchk_ ((gt p.ships m).saA) ((gt p.ships m).sac) ((gt p.ships m).am) p.dims _ _ ((hPB.2.2.2.2.2 m).1)) (.w (fun hb => ev_cmp G (lkg G hb) G G) G (.r G G G G G ?_))))
  refine .m G G G (.w (fun _ => ev_fa G fo83_3 G (r := 7) G) G (.w (fun hb => ev_ld1 G ty67 (lkg G hb) (At.own1 0 G G)) G (.w (fun hb => ev_cmp G (lkg G hb) G G) G ?_)))
  refine .r G G G G G (.m G G G (.w (fun _ => ev_fa G fo83_4 G (r := 8) G) G (.w (fun hb => ev_ld1 G ty3 (lkg G hb) (At.own1 0 G G)) G ?_)))
  refine .cons (st_gcallk G G G G G G hbd35 (fun hb => (lkA1 (lkg G hb) (lkA1 G lkA0))) .n (fun hb => have hp := bF (bO (bO (bO (bN bV) (bN bV)) bNE) bD) hb; up_ ((gt p.ships m).spr) 100 _ _) ?_)
  refine .w (fun hb => ev_not G (lkg G hb)) G (.r G G G G G (.go idQ (.condI G (bO (bO (bO (bO (bN bV) (bN bV)) bNE) bD) (bN (bA bD bD))) (fun h12 => ?_) (fun h12 => ?_))))
  ·
   refine .seq (.region (.a G G G (.go idQ (.ret idQ (ret1 results17 G .n ⟨2, (fun h_ => by omega), G, G⟩)))))
  refine .skipgo idQ (.region (.m G G G (.p ((m + 1)) oO oO G G G G G (.a G G G ?_))))
  exact SP.nil (SQ.roundb (X := Int) (x := (m)) (m + 1) (by (try dsimp only); exact ⟨oO, oO, (upto_nx s_2 (ship_of h12 (hU.s m)))⟩) (by show (_ : Nat) < _; omega) (Sub.get (.c4 G G G G (.c G .n))) (kp (.c (.t .h) .n)))
 refine .exit idQ ?_
 refine .seq (.region (.a G G G (.go idQ (.ret idQ (ret1 results17 G .n ⟨0, (fun _ => law_of hM hN.1 hN.2 (by rw [← show i = (p.vehs.length : Int) from by omega]; exact q_2) (by rw [← show k = (p.jobs.length : Int) from by omega]; exact r_2) (by rw [← show m = (p.ships.length : Int) from by omega]; exact s_2)), G, G⟩)))))
theorem lawful_ (p : PB) (S : Nat → Prop) (wf : World) (hPB : PBF S wf p) (hU : SkU p) :
  TR0 prog 6 [.agg (cPB p).toArray] [] S wf (fun v_ C_ => ∃ (b : Bool), (b = true → LawP p) ∧ v_ = .bool b ∧ C_ = []) := by
 refine TR.mk func6 G ntmps6 G G (fun w_ => ?_)
 refine .seq (.region (.cons (st_boxa G G G G G (fun b1 => (.a G G G (.go idQ (.seq (.region ?_))))))))
 refine .v (ev_lda rfl rfl (At.whole 0 rfl) ty29) rfl (.cons (st_call00 rfl rfl rfl rfl hbd17 rfl .n (rcheck_ p _ _ hPB hU) (by intro v C h; obtain ⟨_, _, rfl, rfl⟩ := h; rfl) (fun v_q3 q3 => ?_)))
 obtain ⟨e2, p4, rfl, -⟩ := q3
 refine .e G G G G G (.a G G G (.go idQ (.ret idQ (ret1 results6 G .n ⟨(e2 == 0), (fun h_ => p4 (by simpa using h_)), G, G⟩))))
end Go.Proofs.YtimhdimhdimbjaaGreat.Sx
set_option maxRecDepth 20000
set_option maxHeartbeats 1000000
namespace Go.Proofs.YtimhdimhdimbjaaGreat.Sx.FQ
open Go Go.SX Go.Proofs Go.Proofs.Tryz FA FB FC FD FE FF FG FH FJ FK FL FM FP
theorem zf29 : (prog.info? 29).bind (fun i => i.zero.map Value.cells) = some (List.toArray [.int .i64 0, .int .i64 0, .slice none 0 0, .int .i64 0, .slice none 0 0, .slice none 0 0, .slice none 0 0, .slice none 0 0]) := by kernel_rfl
theorem zf24 : (prog.info? 24).bind (fun i => i.zero.map Value.cells) = some (List.toArray [.int .i64 0, .slice none 0 0]) := by kernel_rfl
end Go.Proofs.YtimhdimhdimbjaaGreat.Sx.FQ
namespace Go.Proofs.YtimhdimhdimbjaaGreat.Sx
open Go Go.SX Go.Proofs Go.Proofs.Tryz FA FB FC FD FE FF FG FH FJ FK FL FM FP FQ
theorem line_ (S : Nat → Prop) (wf : World) :
  TR prog 16 [] [] S wf (fun v_ C_ S_ wf_ => (∃ (q : PB), (PBF S_ wf_ q) ∧ (era q = lineP) ∧ v_ = .agg (cPB q).toArray) ∧ C_ = []) := by
 refine TR.mk func16 G ntmps16 G G (fun w_ => ?_)
 refine .seq (.region (.cons (st_alloc G G G G zf29 (fun b1 => (.go idQ (.seq (.region (.cons (st_lit eZ (e := 3) (l := [0, 10, 10, 0]) G G G G kR G G kW (fun b2 => ?_))))))))))
 refine .v (ev_any (v := .agg #[.int .i64 2, .slice (some ⟨b2, 0, none⟩) 4 4]) G kR (fun _ => by kernel_rfl)) G (.cons (st_alloc G G G G zf24 (fun b3 => (.cons (st_storea (l' := [.int .i64 2, .slice (some ⟨b2, 0, none⟩) 4 4]) G G G ty24 G G G .h G G (.go idQ (.seq (.region ?_))))))))
 refine .v (ev_any (v := .agg #[.int .i64 0, .int .i64 1000000]) G kR (fun _ => by kernel_rfl)) G (.cons (st_lit eWN (e := 69) (l := [(WN.mk 0 1000000)]) G G G G kR G G kW (fun b4 => (.a G G G (.go idQ (.seq ?_))))))
 have hw1 : ([(WN.mk 0 1000000)] : List WN).length = 1 := rfl
 refine SC.draw mo [cel b1 [.int .i64 0, .int .i64 0, .slice none 0 0, .int .i64 0, .slice none 0 0, .slice none 0 0, .slice none 0 0, .slice none 0 0] 29] [] (.c (.t2 (.t .h)) .n) (fun _ _ _ => sc0) (fun wf_5 hl_5 hx_5 hR_5 => ?_)
 refine SR.z 0 G G (ev_lda (cs := [.int .i64 2, .slice (some ⟨b2, 0, none⟩) 4 4]) G G (At.d (At.lent hR_5 1 G G)) ty24) ?_
 refine SR.z 1 G G (ev_lda (cs := [.int .i64 2, .slice (some ⟨b2, 0, none⟩) 4 4]) G G (At.d (At.lent hR_5 1 G G)) ty24) ?_
 refine SR.m 2 G G G G ?_
 refine SR.z 3 G G (ev_ix G underlying73 ty69 G G oO oO (fun _ _ => Fr.adr (i := 0) (Fr.lent (S := S) hR_5 0 G lO) oO oO)) ?_
 refine SR.z 4 G G (ev_lda G G (At.d (Fr.el (i := 0) (Fr.lent (S := S) hR_5 0 G lO) oO oO)) ty69) ?_
 refine SR.z 5 G G (ev_any (v := .agg #[.int .i64 0, .int .i64 0, .slice none 0 0, .int .u64 0, .int .i64 ((gt [(WN.mk 0 1000000)] 0).lo), .int .i64 ((gt [(WN.mk 0 1000000)] 0).hi), .int .i64 0, .int .i64 1, .int .i64 0, .int .i64 12, .slice none 0 0]) G kR (fun _ => by kernel_rfl)) ?_
 refine SR.m 7 G G G G ?_
 refine SR.z 8 G G (ev_any (v := .agg #[.int .i64 1, .int .i64 5, .slice (some ⟨b4, 0, none⟩) 1 1]) G kR (fun _ => by kernel_rfl)) ?_
 refine SR.z 9 G G (ev_any (v := .agg #[.int .i64 1, .int .i64 5, .slice (some ⟨b4, 0, none⟩) 1 1, .slice none 0 0, .slice none 0 0, .int .u64 0, .int .i64 1]) G kR (fun _ => by kernel_rfl)) ?_
 refine SR.m 10 G G G G ?_
 refine SR.z 11 G G (ev_any (v := .agg #[.int .i64 1, .int .i64 0, .slice (some ⟨b4, 0, none⟩) 1 1]) G kR (fun _ => by kernel_rfl)) ?_
 refine SR.z 12 G G (ev_any (v := .agg #[.int .i64 1, .int .i64 0, .slice (some ⟨b4, 0, none⟩) 1 1, .slice none 0 0, .slice none 0 0, .int .u64 0, .int .i64 5]) G kR (fun _ => by kernel_rfl)) ?_
 refine SR.two (i := 6) (j := 13) kR ⟨_, G, ?_⟩ ⟨_, G, ?_⟩
 ·
  refine st_lit eVH (e := 72) (l := [(VH.mk 0 0 [] 0 ((gt [(WN.mk 0 1000000)] 0).lo) ((gt [(WN.mk 0 1000000)] 0).hi) 0 1 0 12 [] none 0 none 0)]) G G G G kR G G kW (fun b6 => ⟨tt0, ?_⟩)
  refine SR.o 13 G (st_lit eJB (e := 80) (l := [(JB.mk (SO.mk 1 5 [(WN.mk 0 1000000)] (some ⟨b4, 0, none⟩) 1) [] [] 0 1 none 0 none 0), (JB.mk (SO.mk 1 0 [(WN.mk 0 1000000)] (some ⟨b4, 0, none⟩) 1) [] [] 0 5 none 0 none 0)]) G G G G kR G G kW (fun b7 => ⟨tt0, ?_⟩))
  refine SR.z 14 G G (ev_any (v := .agg #[.int .i64 0, .int .i64 2, .slice (some ⟨b2, 0, none⟩) 4 4, .int .i64 2, .slice (some ⟨b2, 0, none⟩) 4 4, .slice (some ⟨b6, 0, none⟩) 1 1, .slice (some ⟨b7, 0, none⟩) 2 2, .slice none 0 0]) G kR (fun _ => by kernel_rfl)) ?_
  refine SR.o 15 G (st_storea (l' := [.int .i64 0, .int .i64 2, .slice (some ⟨b2, 0, none⟩) 4 4, .int .i64 2, .slice (some ⟨b2, 0, none⟩) 4 4, .slice (some ⟨b6, 0, none⟩) 1 1, .slice (some ⟨b7, 0, none⟩) 2 2, .slice none 0 0]) G G G ty29 G G G (.t2 .h) G G ⟨tt0, ?_⟩)
  refine SR.fin kR hl_5 hx_5 hR_5 (.c (.c (.c .n))) ?_
  refine SQ.go idQ ?_
  refine SC.freeze (R := [rw_ eJB 80 (.slice (some ⟨b7, 0, none⟩) 2 2) [(JB.mk (SO.mk 1 5 [(WN.mk 0 1000000)] (some ⟨b4, 0, none⟩) 1) [] [] 0 1 none 0 none 0), (JB.mk (SO.mk 1 0 [(WN.mk 0 1000000)] (some ⟨b4, 0, none⟩) 1) [] [] 0 5 none 0 none 0)], rw_ eVH 72 (.slice (some ⟨b6, 0, none⟩) 1 1) [(VH.mk 0 0 [] 0 ((gt [(WN.mk 0 1000000)] 0).lo) ((gt [(WN.mk 0 1000000)] 0).hi) 0 1 0 12 [] none 0 none 0)], rw_ eWN 69 (.slice (some ⟨b4, 0, none⟩) 1 1) [(WN.mk 0 1000000)], rw_ eZ 3 (.slice (some ⟨b2, 0, none⟩) 4 4) [0, 10, 10, 0]]) (.c (.t .h) (.c (.t .h) (.c (.t .h) (.c (.t2 .h) .n)))) (fun Sz8 wfz8 hxz8 hhz8 hsz8 => ?_)
  have hfz8_0 := Fr.of_row (hhz8 _ (by simp)) (fun b hb => hsz8 b (feet_of 0 rfl hb)) lO
  have hfz8_1 := Fr.of_row (hhz8 _ (by simp)) (fun b hb => hsz8 b (feet_of 1 rfl hb)) lO
  have hfz8_2 := Fr.of_row (hhz8 _ (by simp)) (fun b hb => hsz8 b (feet_of 2 rfl hb)) lO
  have hfz8_3 := Fr.of_row (hhz8 _ (by simp)) (fun b hb => hsz8 b (feet_of 3 rfl hb)) lO
  exact .ret idQ (retz1 results16 (.c 0 G G ty29) hxz8 ⟨⟨(PB.mk 0 2 [0, 10, 10, 0] 2 [0, 10, 10, 0] [(VH.mk 0 0 [] 0 ((gt [(WN.mk 0 1000000)] 0).lo) ((gt [(WN.mk 0 1000000)] 0).hi) 0 1 0 12 [] none 0 none 0)] [(JB.mk (SO.mk 1 5 [(WN.mk 0 1000000)] (some ⟨b4, 0, none⟩) 1) [] [] 0 1 none 0 none 0), (JB.mk (SO.mk 1 0 [(WN.mk 0 1000000)] (some ⟨b4, 0, none⟩) 1) [] [] 0 5 none 0 none 0)] [] (some ⟨b2, 0, none⟩) 4 (some ⟨b2, 0, none⟩) 4 (some ⟨b6, 0, none⟩) 1 (some ⟨b7, 0, none⟩) 2 none 0), ⟨hfz8_3, hfz8_3, ⟨hfz8_1, one_all (Φ := VHF _ _) ⟨Fr.nil _ _ _ _, Fr.nil _ _ _ _, fun i => by rw [gt_none]; exact Fr.nil _ _ _ _⟩ VHF.dflt⟩, ⟨hfz8_0, two_all (Φ := JBF _ _) ⟨Fr.nil _ _ _ _, Fr.nil _ _ _ _, hfz8_2⟩ ⟨Fr.nil _ _ _ _, Fr.nil _ _ _ _, hfz8_2⟩ JBF.dflt⟩, ⟨Fr.nil _ _ _ _, fun i => by rw [gt_none]; exact SHF.dflt⟩⟩, G, G⟩, G⟩)
 refine st_lit eJB (e := 80) (l := [(JB.mk (SO.mk 1 5 [(WN.mk 0 1000000)] (some ⟨b4, 0, none⟩) 1) [] [] 0 1 none 0 none 0), (JB.mk (SO.mk 1 0 [(WN.mk 0 1000000)] (some ⟨b4, 0, none⟩) 1) [] [] 0 5 none 0 none 0)]) G G G G kR G G kW (fun b9 => ⟨tt0, ?_⟩)
 refine SR.o 6 G (st_lit eVH (e := 72) (l := [(VH.mk 0 0 [] 0 ((gt [(WN.mk 0 1000000)] 0).lo) ((gt [(WN.mk 0 1000000)] 0).hi) 0 1 0 12 [] none 0 none 0)]) G G G G kR G G kW (fun b10 => ⟨tt0, ?_⟩))
 refine SR.z 14 G G (ev_any (v := .agg #[.int .i64 0, .int .i64 2, .slice (some ⟨b2, 0, none⟩) 4 4, .int .i64 2, .slice (some ⟨b2, 0, none⟩) 4 4, .slice (some ⟨b10, 0, none⟩) 1 1, .slice (some ⟨b9, 0, none⟩) 2 2, .slice none 0 0]) G kR (fun _ => by kernel_rfl)) ?_
 refine SR.o 15 G (st_storea (l' := [.int .i64 0, .int .i64 2, .slice (some ⟨b2, 0, none⟩) 4 4, .int .i64 2, .slice (some ⟨b2, 0, none⟩) 4 4, .slice (some ⟨b10, 0, none⟩) 1 1, .slice (some ⟨b9, 0, none⟩) 2 2, .slice none 0 0]) G G G ty29 G G G (.t2 .h) G G ⟨tt0, ?_⟩)
 refine SR.fin kR hl_5 hx_5 hR_5 (.c (.c (.c .n))) ?_
 refine SQ.go idQ ?_
 refine SC.freeze (R := [rw_ eVH 72 (.slice (some ⟨b10, 0, none⟩) 1 1) [(VH.mk 0 0 [] 0 ((gt [(WN.mk 0 1000000)] 0).lo) ((gt [(WN.mk 0 1000000)] 0).hi) 0 1 0 12 [] none 0 none 0)], rw_ eJB 80 (.slice (some ⟨b9, 0, none⟩) 2 2) [(JB.mk (SO.mk 1 5 [(WN.mk 0 1000000)] (some ⟨b4, 0, none⟩) 1) [] [] 0 1 none 0 none 0), (JB.mk (SO.mk 1 0 [(WN.mk 0 1000000)] (some ⟨b4, 0, none⟩) 1) [] [] 0 5 none 0 none 0)], rw_ eWN 69 (.slice (some ⟨b4, 0, none⟩) 1 1) [(WN.mk 0 1000000)], rw_ eZ 3 (.slice (some ⟨b2, 0, none⟩) 4 4) [0, 10, 10, 0]]) (.c (.t .h) (.c (.t .h) (.c (.t .h) (.c (.t2 .h) .n)))) (fun Sz11 wfz11 hxz11 hhz11 hsz11 => ?_)
 have hfz11_0 := Fr.of_row (hhz11 _ (by simp)) (fun b hb => hsz11 b (feet_of 0 rfl hb)) lO
 have hfz11_1 := Fr.of_row (hhz11 _ (by simp)) (fun b hb => hsz11 b (feet_of 1 rfl hb)) lO
 have hfz11_2 := Fr.of_row (hhz11 _ (by simp)) (fun b hb => hsz11 b (feet_of 2 rfl hb)) lO
 have hfz11_3 := Fr.of_row (hhz11 _ (by simp)) (fun b hb => hsz11 b (feet_of 3 rfl hb)) lO
 exact .ret idQ (retz1 results16 (.c 0 G G ty29) hxz11 ⟨⟨(PB.mk 0 2 [0, 10, 10, 0] 2 [0, 10, 10, 0] [(VH.mk 0 0 [] 0 ((gt [(WN.mk 0 1000000)] 0).lo) ((gt [(WN.mk 0 1000000)] 0).hi) 0 1 0 12 [] none 0 none 0)] [(JB.mk (SO.mk 1 5 [(WN.mk 0 1000000)] (some ⟨b4, 0, none⟩) 1) [] [] 0 1 none 0 none 0), (JB.mk (SO.mk 1 0 [(WN.mk 0 1000000)] (some ⟨b4, 0, none⟩) 1) [] [] 0 5 none 0 none 0)] [] (some ⟨b2, 0, none⟩) 4 (some ⟨b2, 0, none⟩) 4 (some ⟨b10, 0, none⟩) 1 (some ⟨b9, 0, none⟩) 2 none 0), ⟨hfz11_3, hfz11_3, ⟨hfz11_0, one_all (Φ := VHF _ _) ⟨Fr.nil _ _ _ _, Fr.nil _ _ _ _, fun i => by rw [gt_none]; exact Fr.nil _ _ _ _⟩ VHF.dflt⟩, ⟨hfz11_1, two_all (Φ := JBF _ _) ⟨Fr.nil _ _ _ _, Fr.nil _ _ _ _, hfz11_2⟩ ⟨Fr.nil _ _ _ _, Fr.nil _ _ _ _, hfz11_2⟩ JBF.dflt⟩, ⟨Fr.nil _ _ _ _, fun i => by rw [gt_none]; exact SHF.dflt⟩⟩, G, G⟩, G⟩)
end Go.Proofs.YtimhdimhdimbjaaGreat.Sx
set_option maxRecDepth 20000
set_option maxHeartbeats 1000000
